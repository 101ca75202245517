/-
  The law's own awakening: what its calls come to. Printed by wip/gen/awake.py.
-/
import Derived.Test.YtnfakljmdnbipaaProg
import Derived.KernelRfl
import Derived.Test.YtnfakljmdnbipaaV2
set_option linter.all false
namespace Go.Proofs.Ytnfakljmdnbipaa
open Go.VE Go.Proofs
def tyTab0 : List (Nat × TD) := [
  (1, ⟨1, 8, [.nfn], .other⟩),
  (2, ⟨1, 8, [.int .i64 0], .int (.i64)⟩),
  (3, ⟨1, 8, [.int .i64 0], .int (.i64)⟩),
  (4, ⟨1, 1, [.bool false], .bool⟩),
  (5, ⟨1, 1, [.int .u8 0], .int (.u8)⟩),
  (6, ⟨1, 1, [.int .u8 0], .int (.u8)⟩),
  (7, ⟨4, 24, [.int .i64 0, .int .i64 0, .bool false, .int .u8 0], .struct [(0, 2), (1, 3), (2, 4), (3, 6)]⟩),
  (8, ⟨4, 24, [.int .i64 0, .int .i64 0, .bool false, .int .u8 0], .struct [(0, 2), (1, 3), (2, 4), (3, 6)]⟩),
  (9, ⟨1, 16, [.str ByteArray.empty], .str⟩),
  (10, ⟨1, 16, [.str ByteArray.empty], .str⟩),
  (11, ⟨1, 16, [.str ByteArray.empty], .str⟩),
  (12, ⟨1, 8, [.int .u64 0], .int (.u64)⟩),
  (13, ⟨2, 24, [.str ByteArray.empty, .int .u64 0], .struct [(0, 9), (1, 12)]⟩),
  (14, ⟨2, 24, [.str ByteArray.empty, .int .u64 0], .struct [(0, 9), (1, 12)]⟩),
  (15, ⟨1, 8, [.nptr], .ptr 147⟩),
  (16, ⟨1, 8, [.nptr], .ptr 150⟩),
  (17, ⟨1, 8, [.nptr], .ptr 160⟩),
  (18, ⟨1, 8, [.nptr], .struct [(0, 17)]⟩),
  (19, ⟨1, 8, [.nptr], .struct [(0, 17)]⟩),
  (21, ⟨1, 4, [.int .i32 0], .int (.i32)⟩),
  (22, ⟨1, 24, [.nsl], .slice 37⟩),
  (23, ⟨1, 24, [.nsl], .struct [(0, 22)]⟩),
  (24, ⟨1, 24, [.nsl], .struct [(0, 22)]⟩),
  (25, ⟨1, 24, [.nsl], .slice 3⟩),
  (26, ⟨1, 8, [.nfn], .other⟩),
  (27, ⟨1, 8, [.nfn], .other⟩),
  (28, ⟨1, 8, [.nfn], .other⟩),
  (29, ⟨1, 8, [.nfn], .other⟩),
  (30, ⟨1, 24, [.nsl], .slice 25⟩),
  (31, ⟨1, 8, [.int .i64 0], .int (.i64)⟩)]
def tyTab1 : List (Nat × TD) := [
  (33, ⟨1, 8, [.nfn], .other⟩),
  (34, ⟨1, 24, [.nsl], .slice 117⟩),
  (35, ⟨1, 24, [.nsl], .slice 40⟩),
  (36, ⟨3, 64, [.str ByteArray.empty, .nsl, .nsl], .struct [(0, 9), (1, 34), (2, 35)]⟩),
  (37, ⟨3, 64, [.str ByteArray.empty, .nsl, .nsl], .struct [(0, 9), (1, 34), (2, 35)]⟩),
  (38, ⟨1, 24, [.nsl], .slice 123⟩),
  (39, ⟨5, 56, [.int .i64 0, .int .i64 0, .int .i64 0, .int .i64 0, .nsl], .struct [(0, 3), (1, 3), (2, 3), (3, 3), (4, 38)]⟩),
  (40, ⟨5, 56, [.int .i64 0, .int .i64 0, .int .i64 0, .int .i64 0, .nsl], .struct [(0, 3), (1, 3), (2, 3), (3, 3), (4, 38)]⟩),
  (42, ⟨1, 8, [.nfn], .other⟩),
  (43, ⟨1, 8, [.nfn], .other⟩),
  (44, ⟨1, 8, [.nfn], .other⟩),
  (45, ⟨1, 8, [.nfn], .other⟩),
  (46, ⟨1, 8, [.nfn], .other⟩),
  (47, ⟨1, 8, [.nfn], .other⟩),
  (48, ⟨1, 8, [.nfn], .other⟩),
  (50, ⟨1, 8, [.nfn], .other⟩),
  (51, ⟨1, 24, [.nsl], .slice 30⟩),
  (52, ⟨4, 80, [.bool false, .nsl, .nsl, .nsl], .struct [(0, 4), (1, 25), (2, 25), (3, 51)]⟩),
  (53, ⟨4, 80, [.bool false, .nsl, .nsl, .nsl], .struct [(0, 4), (1, 25), (2, 25), (3, 51)]⟩),
  (55, ⟨1, 8, [.nfn], .other⟩),
  (56, ⟨1, 8, [.nfn], .other⟩),
  (57, ⟨1, 8, [.nfn], .other⟩),
  (58, ⟨1, 8, [.nfn], .other⟩),
  (59, ⟨2, 16, [.int .i64 0, .int .i64 0], .struct [(0, 3), (1, 3)]⟩),
  (60, ⟨2, 16, [.int .i64 0, .int .i64 0], .struct [(0, 3), (1, 3)]⟩),
  (62, ⟨1, 8, [.nfn], .other⟩),
  (63, ⟨1, 8, [.nfn], .other⟩),
  (64, ⟨1, 24, [.nsl], .slice 60⟩),
  (66, ⟨1, 8, [.nfn], .other⟩),
  (67, ⟨4, 64, [.int .i64 0, .int .i64 0, .nsl, .nsl], .struct [(0, 3), (1, 3), (2, 25), (3, 25)]⟩)]
def tyTab2 : List (Nat × TD) := [
  (68, ⟨4, 64, [.int .i64 0, .int .i64 0, .nsl, .nsl], .struct [(0, 3), (1, 3), (2, 25), (3, 25)]⟩),
  (69, ⟨1, 8, [.nfn], .other⟩),
  (70, ⟨1, 8, [.nfn], .other⟩),
  (71, ⟨1, 8, [.nfn], .other⟩),
  (72, ⟨1, 8, [.nfn], .other⟩),
  (73, ⟨1, 8, [.nfn], .other⟩),
  (75, ⟨1, 8, [.nfn], .other⟩),
  (76, ⟨1, 8, [.nfn], .other⟩),
  (77, ⟨1, 8, [.nfn], .other⟩),
  (78, ⟨1, 8, [.nptr], .ptr 109⟩),
  (80, ⟨1, 8, [.nfn], .other⟩),
  (81, ⟨4, 32, [.int .i64 0, .int .i64 0, .int .i64 0, .int .i64 0], .struct [(0, 60), (2, 60)]⟩),
  (83, ⟨1, 8, [.nfn], .other⟩),
  (84, ⟨1, 8, [.nfn], .other⟩),
  (86, ⟨1, 8, [.nfn], .other⟩),
  (87, ⟨1, 8, [.nfn], .other⟩),
  (88, ⟨1, 8, [.nfn], .other⟩),
  (89, ⟨1, 8, [.nfn], .other⟩),
  (90, ⟨1, 8, [.nfn], .other⟩),
  (91, ⟨1, 8, [.nfn], .other⟩),
  (92, ⟨1, 8, [.nfn], .other⟩),
  (94, ⟨1, 8, [.nfn], .other⟩),
  (95, ⟨1, 8, [.nfn], .other⟩),
  (96, ⟨1, 8, [.nfn], .other⟩),
  (97, ⟨1, 8, [.nfn], .other⟩),
  (98, ⟨1, 8, [.nfn], .other⟩),
  (99, ⟨1, 8, [.nfn], .other⟩),
  (100, ⟨1, 8, [.nfn], .other⟩),
  (101, ⟨1, 8, [.nfn], .other⟩),
  (102, ⟨1, 8, [.nfn], .other⟩)]
def tyTab3 : List (Nat × TD) := [
  (103, ⟨1, 8, [.nfn], .other⟩),
  (104, ⟨1, 8, [.nfn], .other⟩),
  (105, ⟨1, 24, [.nsl], .slice 4⟩),
  (106, ⟨1, 24, [.nsl], .slice 105⟩),
  (107, ⟨1, 8, [.nfn], .other⟩),
  (108, ⟨800, 6400, List.replicate 800 (.int .i64 0), .array 200 81⟩),
  (109, ⟨800, 6400, List.replicate 800 (.int .i64 0), .array 200 81⟩),
  (110, ⟨1, 8, [.nfn], .other⟩),
  (111, ⟨1, 8, [.nfn], .other⟩),
  (112, ⟨1, 8, [.nfn], .other⟩),
  (113, ⟨1, 8, [.nfn], .other⟩),
  (114, ⟨1, 8, [.nfn], .other⟩),
  (115, ⟨1, 8, [.nfn], .other⟩),
  (116, ⟨2, 24, [.str ByteArray.empty, .int .i64 0], .struct [(0, 9), (1, 3)]⟩),
  (117, ⟨2, 24, [.str ByteArray.empty, .int .i64 0], .struct [(0, 9), (1, 3)]⟩),
  (118, ⟨1, 8, [.nfn], .other⟩),
  (119, ⟨1, 8, [.nfn], .other⟩),
  (120, ⟨1, 8, [.nfn], .other⟩),
  (121, ⟨1, 8, [.nfn], .other⟩),
  (122, ⟨2, 16, [.int .i64 0, .int .i64 0], .struct [(0, 3), (1, 3)]⟩),
  (123, ⟨2, 16, [.int .i64 0, .int .i64 0], .struct [(0, 3), (1, 3)]⟩),
  (124, ⟨1, 8, [.nfn], .other⟩),
  (125, ⟨1, 8, [.nfn], .other⟩),
  (126, ⟨1, 8, [.nmap], .map 60 4⟩),
  (127, ⟨1, 8, [.nfn], .other⟩),
  (129, ⟨1, 8, [.nfn], .other⟩),
  (131, ⟨1, 8, [.nfn], .other⟩),
  (132, ⟨1, 8, [.nfn], .other⟩),
  (133, ⟨1, 8, [.nfn], .other⟩),
  (134, ⟨1, 8, [.nfn], .other⟩)]
def tyTab4 : List (Nat × TD) := [
  (135, ⟨1, 8, [.nfn], .other⟩),
  (136, ⟨1, 8, [.nfn], .other⟩),
  (137, ⟨1, 8, [.nfn], .other⟩),
  (138, ⟨1, 8, [.nfn], .other⟩),
  (139, ⟨1, 8, [.nfn], .other⟩),
  (140, ⟨1, 8, [.nfn], .other⟩),
  (141, ⟨1, 8, [.nfn], .other⟩),
  (142, ⟨1, 8, [.int .u64 0], .int (.u64)⟩),
  (143, ⟨1, 8, [.nfn], .other⟩),
  (144, ⟨1, 8, [.nfn], .other⟩),
  (145, ⟨1, 8, [.nfn], .other⟩),
  (146, ⟨4, 40, [.nptr, .nptr, .nptr, .str ByteArray.empty], .struct [(0, 17), (1, 17), (2, 17), (3, 9)]⟩),
  (147, ⟨4, 40, [.nptr, .nptr, .nptr, .str ByteArray.empty], .struct [(0, 17), (1, 17), (2, 17), (3, 9)]⟩),
  (148, ⟨0, 0, [], .array 0 16⟩),
  (149, ⟨0, 0, [], .struct [(0, 148)]⟩),
  (150, ⟨0, 0, [], .struct [(0, 148)]⟩),
  (151, ⟨1, 8, [.nfn], .other⟩),
  (152, ⟨1, 4, [.int .u32 0], .int (.u32)⟩),
  (153, ⟨1, 1, [.int .u8 0], .int (.u8)⟩),
  (154, ⟨1, 1, [.int .u8 0], .int (.u8)⟩),
  (155, ⟨1, 8, [.nfn], .other⟩),
  (156, ⟨1, 8, [.nptr], .ptr 5⟩),
  (157, ⟨1, 4, [.int .i32 0], .int (.i32)⟩),
  (158, ⟨1, 4, [.int .i32 0], .int (.i32)⟩),
  (159, ⟨11, 48, [.int .u64 0, .int .u64 0, .int .u32 0, .int .u8 0, .int .u8 0, .int .u8 0, .int .u8 0, .nfn, .nptr, .int .i32 0, .int .i32 0], .struct [(0, 12), (1, 12), (2, 152), (3, 153), (4, 5), (5, 5), (6, 154), (7, 155), (8, 156), (9, 157), (10, 158)]⟩),
  (160, ⟨11, 48, [.int .u64 0, .int .u64 0, .int .u32 0, .int .u8 0, .int .u8 0, .int .u8 0, .int .u8 0, .nfn, .nptr, .int .i32 0, .int .i32 0], .struct [(0, 12), (1, 12), (2, 152), (3, 153), (4, 5), (5, 5), (6, 154), (7, 155), (8, 156), (9, 157), (10, 158)]⟩),
  (161, ⟨1, 8, [.nptr], .other⟩)]
def tyTab : List (Nat × TD) := tyTab0 ++ tyTab1 ++ tyTab2 ++ tyTab3 ++ tyTab4
noncomputable def fnTab0 : List (Nat × FI) := [
  (2, ⟨1, [], Try.f2.body.getD .skip⟩),
  (3, ⟨181, [.tmp 4], Try.f3.body.getD .skip⟩),
  (4, ⟨147, [.tmp 8], Try.f4.body.getD .skip⟩),
  (5, ⟨52, [.tmp 2], Try.f5.body.getD .skip⟩),
  (6, ⟨85, [.tmp 0], Try.f6.body.getD .skip⟩),
  (7, ⟨33, [.tmp 2], Try.f7.body.getD .skip⟩),
  (8, ⟨12, [.tmp 2], Try.f8.body.getD .skip⟩),
  (9, ⟨10, [.tmp 4], Try.f9.body.getD .skip⟩),
  (10, ⟨54, [.tmp 4, .tmp 5], Try.f10.body.getD .skip⟩),
  (11, ⟨21, [.tmp 4, .tmp 5], Try.f11.body.getD .skip⟩),
  (12, ⟨23, [.tmp 2], Try.f12.body.getD .skip⟩),
  (13, ⟨60, [.tmp 6, .tmp 7], Try.f13.body.getD .skip⟩),
  (14, ⟨12, [.tmp 2], Try.f14.body.getD .skip⟩),
  (15, ⟨32, [.tmp 6], Try.f15.body.getD .skip⟩),
  (16, ⟨90, [.tmp 6], Try.f16.body.getD .skip⟩),
  (17, ⟨37, [.tmp 4], Try.f17.body.getD .skip⟩),
  (18, ⟨22, [.tmp 4], Try.f18.body.getD .skip⟩),
  (19, ⟨27, [.tmp 4], Try.f19.body.getD .skip⟩),
  (20, ⟨41, [.tmp 4], Try.f20.body.getD .skip⟩),
  (21, ⟨31, [.tmp 4], Try.f21.body.getD .skip⟩),
  (22, ⟨74, [.tmp 2], Try.f22.body.getD .skip⟩),
  (23, ⟨68, [.tmp 6, .tmp 7, .tmp 8], Try.f23.body.getD .skip⟩),
  (24, ⟨116, [.cell 8 53, .tmp 9], Try.f24.body.getD .skip⟩),
  (25, ⟨26, [.tmp 4], Try.f25.body.getD .skip⟩),
  (26, ⟨9, [.tmp 4], Try.f26.body.getD .skip⟩),
  (27, ⟨7, [.tmp 2], Try.f27.body.getD .skip⟩),
  (28, ⟨66, [.cell 2 60, .cell 3 31], Try.f28.body.getD .skip⟩),
  (29, ⟨50, [.tmp 6], Try.f29.body.getD .skip⟩),
  (30, ⟨34, [.tmp 4, .tmp 5], Try.f30.body.getD .skip⟩),
  (31, ⟨74, [.cell 6 68], Try.f31.body.getD .skip⟩)]
noncomputable def fnTab1 : List (Nat × FI) := [
  (32, ⟨22, [.tmp 4], Try.f32.body.getD .skip⟩),
  (33, ⟨6, [.tmp 2], Try.f33.body.getD .skip⟩),
  (34, ⟨37, [.tmp 6], Try.f34.body.getD .skip⟩),
  (35, ⟨19, [.tmp 4], Try.f35.body.getD .skip⟩),
  (36, ⟨14, [.tmp 3], Try.f36.body.getD .skip⟩),
  (37, ⟨137, [.cell 2 60, .tmp 3], Try.f37.body.getD .skip⟩),
  (38, ⟨52, [.cell 6 60], Try.f38.body.getD .skip⟩),
  (39, ⟨11, [.tmp 4], Try.f39.body.getD .skip⟩),
  (40, ⟨31, [.tmp 4], Try.f40.body.getD .skip⟩),
  (41, ⟨27, [.tmp 4], Try.f41.body.getD .skip⟩),
  (42, ⟨26, [.tmp 4], Try.f42.body.getD .skip⟩),
  (43, ⟨62, [.tmp 8], Try.f43.body.getD .skip⟩),
  (44, ⟨64, [.cell 2 78, .cell 3 60, .cell 4 31], Try.f44.body.getD .skip⟩),
  (45, ⟨11, [.tmp 4, .tmp 5], Try.f45.body.getD .skip⟩),
  (46, ⟨42, [.tmp 8], Try.f46.body.getD .skip⟩),
  (47, ⟨50, [.tmp 8, .tmp 9], Try.f47.body.getD .skip⟩),
  (48, ⟨15, [.tmp 6], Try.f48.body.getD .skip⟩),
  (49, ⟨62, [.tmp 4], Try.f49.body.getD .skip⟩),
  (50, ⟨4, [.tmp 2], Try.f50.body.getD .skip⟩),
  (51, ⟨82, [.tmp 6], Try.f51.body.getD .skip⟩),
  (52, ⟨58, [.cell 4 60, .cell 5 4], Try.f52.body.getD .skip⟩),
  (53, ⟨13, [.tmp 4], Try.f53.body.getD .skip⟩),
  (54, ⟨28, [.tmp 4], Try.f54.body.getD .skip⟩),
  (55, ⟨14, [.tmp 4], Try.f55.body.getD .skip⟩),
  (56, ⟨17, [.tmp 4], Try.f56.body.getD .skip⟩),
  (57, ⟨17, [.tmp 4], Try.f57.body.getD .skip⟩),
  (58, ⟨9, [.tmp 4], Try.f58.body.getD .skip⟩),
  (59, ⟨5, [.tmp 2], Try.f59.body.getD .skip⟩),
  (60, ⟨9, [.tmp 4], Try.f60.body.getD .skip⟩),
  (61, ⟨5, [.tmp 2], Try.f61.body.getD .skip⟩)]
noncomputable def fnTab2 : List (Nat × FI) := [
  (62, ⟨81, [.tmp 4], Try.f62.body.getD .skip⟩),
  (63, ⟨147, [.tmp 6], Try.f63.body.getD .skip⟩),
  (64, ⟨70, [.tmp 4], Try.f64.body.getD .skip⟩),
  (65, ⟨86, [.tmp 2], Try.f65.body.getD .skip⟩),
  (66, ⟨75, [.tmp 4], Try.f66.body.getD .skip⟩),
  (67, ⟨35, [.tmp 8], Try.f67.body.getD .skip⟩),
  (68, ⟨17, [.tmp 8], Try.f68.body.getD .skip⟩),
  (69, ⟨40, [.tmp 6, .tmp 7], Try.f69.body.getD .skip⟩),
  (70, ⟨12, [], Try.f70.body.getD .skip⟩),
  (71, ⟨11, [.tmp 4, .tmp 5], Try.f71.body.getD .skip⟩),
  (72, ⟨41, [.tmp 2], Try.f72.body.getD .skip⟩),
  (73, ⟨9, [.tmp 4], Try.f73.body.getD .skip⟩),
  (74, ⟨9, [.tmp 3], Try.f74.body.getD .skip⟩),
  (75, ⟨9, [.tmp 4], Try.f75.body.getD .skip⟩),
  (76, ⟨9, [.tmp 3], Try.f76.body.getD .skip⟩),
  (77, ⟨33, [], Try.f77.body.getD .skip⟩),
  (78, ⟨40, [.tmp 6], Try.f78.body.getD .skip⟩),
  (79, ⟨9, [.tmp 4], Try.f79.body.getD .skip⟩),
  (80, ⟨9, [.tmp 3], Try.f80.body.getD .skip⟩),
  (81, ⟨62, [.tmp 6], Try.f81.body.getD .skip⟩),
  (82, ⟨10, [.tmp 3], Try.f82.body.getD .skip⟩),
  (83, ⟨61, [.cell 4 60, .cell 5 60, .tmp 6], Try.f83.body.getD .skip⟩),
  (84, ⟨54, [.tmp 4, .tmp 5], Try.f84.body.getD .skip⟩),
  (85, ⟨19, [.tmp 4], Try.f85.body.getD .skip⟩),
  (86, ⟨19, [.tmp 4], Try.f86.body.getD .skip⟩),
  (87, ⟨42, [.tmp 2], Try.f87.body.getD .skip⟩),
  (88, ⟨9, [.tmp 2], Try.f88.body.getD .skip⟩),
  (89, ⟨17, [.cell 4 40], Try.f89.body.getD .skip⟩),
  (90, ⟨33, [.tmp 4], Try.f90.body.getD .skip⟩),
  (91, ⟨20, [.tmp 4], Try.f91.body.getD .skip⟩)]
noncomputable def fnTab3 : List (Nat × FI) := [
  (92, ⟨8, [.tmp 2], Try.f92.body.getD .skip⟩),
  (93, ⟨13, [], Try.f93.body.getD .skip⟩),
  (94, ⟨17, [.tmp 2], Try.f94.body.getD .skip⟩),
  (95, ⟨9, [.tmp 2], Try.f95.body.getD .skip⟩),
  (96, ⟨19, [.tmp 4], Try.f96.body.getD .skip⟩),
  (97, ⟨19, [.tmp 4], Try.f97.body.getD .skip⟩),
  (98, ⟨19, [.tmp 4], Try.f98.body.getD .skip⟩),
  (99, ⟨11, [.cell 4 60, .tmp 5], Try.f99.body.getD .skip⟩),
  (100, ⟨17, [.tmp 4], Try.f100.body.getD .skip⟩),
  (101, ⟨6, [.tmp 2], Try.f101.body.getD .skip⟩),
  (102, ⟨17, [.tmp 2], Try.f102.body.getD .skip⟩),
  (103, ⟨9, [.tmp 2], Try.f103.body.getD .skip⟩),
  (104, ⟨30, [.cell 6 60, .cell 7 4], Try.f104.body.getD .skip⟩),
  (105, ⟨6, [.tmp 2], Try.f105.body.getD .skip⟩)]
noncomputable def fnTab : List (Nat × FI) := fnTab0 ++ fnTab1 ++ fnTab2 ++ fnTab3
noncomputable def E : Env where
  tt := lk tyTab
  ft := lk fnTab
  keep := fun f => [92, 69, 45, 71, 70, 93].contains f
  own := fun f => [92, 69, 45, 71].contains f
  eqN := fun t => if [60].contains t then some 2 else none
theorem tt1 : ttOf Try.prog 1 = some ⟨1, 8, [.nfn], .other⟩ := by kernel_rfl
theorem tt2 : ttOf Try.prog 2 = some ⟨1, 8, [.int .i64 0], .int (.i64)⟩ := by kernel_rfl
theorem tt3 : ttOf Try.prog 3 = some ⟨1, 8, [.int .i64 0], .int (.i64)⟩ := by kernel_rfl
theorem tt4 : ttOf Try.prog 4 = some ⟨1, 1, [.bool false], .bool⟩ := by kernel_rfl
theorem tt5 : ttOf Try.prog 5 = some ⟨1, 1, [.int .u8 0], .int (.u8)⟩ := by kernel_rfl
theorem tt6 : ttOf Try.prog 6 = some ⟨1, 1, [.int .u8 0], .int (.u8)⟩ := by kernel_rfl
theorem tt7 : ttOf Try.prog 7 = some ⟨4, 24, [.int .i64 0, .int .i64 0, .bool false, .int .u8 0], .struct [(0, 2), (1, 3), (2, 4), (3, 6)]⟩ := by kernel_rfl
theorem tt8 : ttOf Try.prog 8 = some ⟨4, 24, [.int .i64 0, .int .i64 0, .bool false, .int .u8 0], .struct [(0, 2), (1, 3), (2, 4), (3, 6)]⟩ := by kernel_rfl
theorem tt9 : ttOf Try.prog 9 = some ⟨1, 16, [.str ByteArray.empty], .str⟩ := by kernel_rfl
theorem tt10 : ttOf Try.prog 10 = some ⟨1, 16, [.str ByteArray.empty], .str⟩ := by kernel_rfl
theorem tt11 : ttOf Try.prog 11 = some ⟨1, 16, [.str ByteArray.empty], .str⟩ := by kernel_rfl
theorem tt12 : ttOf Try.prog 12 = some ⟨1, 8, [.int .u64 0], .int (.u64)⟩ := by kernel_rfl
theorem tt13 : ttOf Try.prog 13 = some ⟨2, 24, [.str ByteArray.empty, .int .u64 0], .struct [(0, 9), (1, 12)]⟩ := by kernel_rfl
theorem tt14 : ttOf Try.prog 14 = some ⟨2, 24, [.str ByteArray.empty, .int .u64 0], .struct [(0, 9), (1, 12)]⟩ := by kernel_rfl
theorem tt15 : ttOf Try.prog 15 = some ⟨1, 8, [.nptr], .ptr 147⟩ := by kernel_rfl
theorem tt16 : ttOf Try.prog 16 = some ⟨1, 8, [.nptr], .ptr 150⟩ := by kernel_rfl
theorem tt17 : ttOf Try.prog 17 = some ⟨1, 8, [.nptr], .ptr 160⟩ := by kernel_rfl
theorem tt18 : ttOf Try.prog 18 = some ⟨1, 8, [.nptr], .struct [(0, 17)]⟩ := by kernel_rfl
theorem tt19 : ttOf Try.prog 19 = some ⟨1, 8, [.nptr], .struct [(0, 17)]⟩ := by kernel_rfl
theorem tt21 : ttOf Try.prog 21 = some ⟨1, 4, [.int .i32 0], .int (.i32)⟩ := by kernel_rfl
theorem tt22 : ttOf Try.prog 22 = some ⟨1, 24, [.nsl], .slice 37⟩ := by kernel_rfl
theorem tt23 : ttOf Try.prog 23 = some ⟨1, 24, [.nsl], .struct [(0, 22)]⟩ := by kernel_rfl
theorem tt24 : ttOf Try.prog 24 = some ⟨1, 24, [.nsl], .struct [(0, 22)]⟩ := by kernel_rfl
theorem tt25 : ttOf Try.prog 25 = some ⟨1, 24, [.nsl], .slice 3⟩ := by kernel_rfl
theorem tt26 : ttOf Try.prog 26 = some ⟨1, 8, [.nfn], .other⟩ := by kernel_rfl
theorem tt27 : ttOf Try.prog 27 = some ⟨1, 8, [.nfn], .other⟩ := by kernel_rfl
theorem tt28 : ttOf Try.prog 28 = some ⟨1, 8, [.nfn], .other⟩ := by kernel_rfl
theorem tt29 : ttOf Try.prog 29 = some ⟨1, 8, [.nfn], .other⟩ := by kernel_rfl
theorem tt30 : ttOf Try.prog 30 = some ⟨1, 24, [.nsl], .slice 25⟩ := by kernel_rfl
theorem tt31 : ttOf Try.prog 31 = some ⟨1, 8, [.int .i64 0], .int (.i64)⟩ := by kernel_rfl
theorem tt33 : ttOf Try.prog 33 = some ⟨1, 8, [.nfn], .other⟩ := by kernel_rfl
theorem tt34 : ttOf Try.prog 34 = some ⟨1, 24, [.nsl], .slice 117⟩ := by kernel_rfl
theorem tt35 : ttOf Try.prog 35 = some ⟨1, 24, [.nsl], .slice 40⟩ := by kernel_rfl
theorem tt36 : ttOf Try.prog 36 = some ⟨3, 64, [.str ByteArray.empty, .nsl, .nsl], .struct [(0, 9), (1, 34), (2, 35)]⟩ := by kernel_rfl
theorem tt37 : ttOf Try.prog 37 = some ⟨3, 64, [.str ByteArray.empty, .nsl, .nsl], .struct [(0, 9), (1, 34), (2, 35)]⟩ := by kernel_rfl
theorem tt38 : ttOf Try.prog 38 = some ⟨1, 24, [.nsl], .slice 123⟩ := by kernel_rfl
theorem tt39 : ttOf Try.prog 39 = some ⟨5, 56, [.int .i64 0, .int .i64 0, .int .i64 0, .int .i64 0, .nsl], .struct [(0, 3), (1, 3), (2, 3), (3, 3), (4, 38)]⟩ := by kernel_rfl
theorem tt40 : ttOf Try.prog 40 = some ⟨5, 56, [.int .i64 0, .int .i64 0, .int .i64 0, .int .i64 0, .nsl], .struct [(0, 3), (1, 3), (2, 3), (3, 3), (4, 38)]⟩ := by kernel_rfl
theorem tt42 : ttOf Try.prog 42 = some ⟨1, 8, [.nfn], .other⟩ := by kernel_rfl
theorem tt43 : ttOf Try.prog 43 = some ⟨1, 8, [.nfn], .other⟩ := by kernel_rfl
theorem tt44 : ttOf Try.prog 44 = some ⟨1, 8, [.nfn], .other⟩ := by kernel_rfl
theorem tt45 : ttOf Try.prog 45 = some ⟨1, 8, [.nfn], .other⟩ := by kernel_rfl
theorem tt46 : ttOf Try.prog 46 = some ⟨1, 8, [.nfn], .other⟩ := by kernel_rfl
theorem tt47 : ttOf Try.prog 47 = some ⟨1, 8, [.nfn], .other⟩ := by kernel_rfl
theorem tt48 : ttOf Try.prog 48 = some ⟨1, 8, [.nfn], .other⟩ := by kernel_rfl
theorem tt50 : ttOf Try.prog 50 = some ⟨1, 8, [.nfn], .other⟩ := by kernel_rfl
theorem tt51 : ttOf Try.prog 51 = some ⟨1, 24, [.nsl], .slice 30⟩ := by kernel_rfl
theorem tt52 : ttOf Try.prog 52 = some ⟨4, 80, [.bool false, .nsl, .nsl, .nsl], .struct [(0, 4), (1, 25), (2, 25), (3, 51)]⟩ := by kernel_rfl
theorem tt53 : ttOf Try.prog 53 = some ⟨4, 80, [.bool false, .nsl, .nsl, .nsl], .struct [(0, 4), (1, 25), (2, 25), (3, 51)]⟩ := by kernel_rfl
theorem tt55 : ttOf Try.prog 55 = some ⟨1, 8, [.nfn], .other⟩ := by kernel_rfl
theorem tt56 : ttOf Try.prog 56 = some ⟨1, 8, [.nfn], .other⟩ := by kernel_rfl
theorem tt57 : ttOf Try.prog 57 = some ⟨1, 8, [.nfn], .other⟩ := by kernel_rfl
theorem tt58 : ttOf Try.prog 58 = some ⟨1, 8, [.nfn], .other⟩ := by kernel_rfl
theorem tt59 : ttOf Try.prog 59 = some ⟨2, 16, [.int .i64 0, .int .i64 0], .struct [(0, 3), (1, 3)]⟩ := by kernel_rfl
theorem tt60 : ttOf Try.prog 60 = some ⟨2, 16, [.int .i64 0, .int .i64 0], .struct [(0, 3), (1, 3)]⟩ := by kernel_rfl
theorem tt62 : ttOf Try.prog 62 = some ⟨1, 8, [.nfn], .other⟩ := by kernel_rfl
theorem tt63 : ttOf Try.prog 63 = some ⟨1, 8, [.nfn], .other⟩ := by kernel_rfl
theorem tt64 : ttOf Try.prog 64 = some ⟨1, 24, [.nsl], .slice 60⟩ := by kernel_rfl
theorem tt66 : ttOf Try.prog 66 = some ⟨1, 8, [.nfn], .other⟩ := by kernel_rfl
theorem tt67 : ttOf Try.prog 67 = some ⟨4, 64, [.int .i64 0, .int .i64 0, .nsl, .nsl], .struct [(0, 3), (1, 3), (2, 25), (3, 25)]⟩ := by kernel_rfl
theorem tt68 : ttOf Try.prog 68 = some ⟨4, 64, [.int .i64 0, .int .i64 0, .nsl, .nsl], .struct [(0, 3), (1, 3), (2, 25), (3, 25)]⟩ := by kernel_rfl
theorem tt69 : ttOf Try.prog 69 = some ⟨1, 8, [.nfn], .other⟩ := by kernel_rfl
theorem tt70 : ttOf Try.prog 70 = some ⟨1, 8, [.nfn], .other⟩ := by kernel_rfl
theorem tt71 : ttOf Try.prog 71 = some ⟨1, 8, [.nfn], .other⟩ := by kernel_rfl
theorem tt72 : ttOf Try.prog 72 = some ⟨1, 8, [.nfn], .other⟩ := by kernel_rfl
theorem tt73 : ttOf Try.prog 73 = some ⟨1, 8, [.nfn], .other⟩ := by kernel_rfl
theorem tt75 : ttOf Try.prog 75 = some ⟨1, 8, [.nfn], .other⟩ := by kernel_rfl
theorem tt76 : ttOf Try.prog 76 = some ⟨1, 8, [.nfn], .other⟩ := by kernel_rfl
theorem tt77 : ttOf Try.prog 77 = some ⟨1, 8, [.nfn], .other⟩ := by kernel_rfl
theorem tt78 : ttOf Try.prog 78 = some ⟨1, 8, [.nptr], .ptr 109⟩ := by kernel_rfl
theorem tt80 : ttOf Try.prog 80 = some ⟨1, 8, [.nfn], .other⟩ := by kernel_rfl
theorem tt81 : ttOf Try.prog 81 = some ⟨4, 32, [.int .i64 0, .int .i64 0, .int .i64 0, .int .i64 0], .struct [(0, 60), (2, 60)]⟩ := by kernel_rfl
theorem tt83 : ttOf Try.prog 83 = some ⟨1, 8, [.nfn], .other⟩ := by kernel_rfl
theorem tt84 : ttOf Try.prog 84 = some ⟨1, 8, [.nfn], .other⟩ := by kernel_rfl
theorem tt86 : ttOf Try.prog 86 = some ⟨1, 8, [.nfn], .other⟩ := by kernel_rfl
theorem tt87 : ttOf Try.prog 87 = some ⟨1, 8, [.nfn], .other⟩ := by kernel_rfl
theorem tt88 : ttOf Try.prog 88 = some ⟨1, 8, [.nfn], .other⟩ := by kernel_rfl
theorem tt89 : ttOf Try.prog 89 = some ⟨1, 8, [.nfn], .other⟩ := by kernel_rfl
theorem tt90 : ttOf Try.prog 90 = some ⟨1, 8, [.nfn], .other⟩ := by kernel_rfl
theorem tt91 : ttOf Try.prog 91 = some ⟨1, 8, [.nfn], .other⟩ := by kernel_rfl
theorem tt92 : ttOf Try.prog 92 = some ⟨1, 8, [.nfn], .other⟩ := by kernel_rfl
theorem tt94 : ttOf Try.prog 94 = some ⟨1, 8, [.nfn], .other⟩ := by kernel_rfl
theorem tt95 : ttOf Try.prog 95 = some ⟨1, 8, [.nfn], .other⟩ := by kernel_rfl
theorem tt96 : ttOf Try.prog 96 = some ⟨1, 8, [.nfn], .other⟩ := by kernel_rfl
theorem tt97 : ttOf Try.prog 97 = some ⟨1, 8, [.nfn], .other⟩ := by kernel_rfl
theorem tt98 : ttOf Try.prog 98 = some ⟨1, 8, [.nfn], .other⟩ := by kernel_rfl
theorem tt99 : ttOf Try.prog 99 = some ⟨1, 8, [.nfn], .other⟩ := by kernel_rfl
theorem tt100 : ttOf Try.prog 100 = some ⟨1, 8, [.nfn], .other⟩ := by kernel_rfl
theorem tt101 : ttOf Try.prog 101 = some ⟨1, 8, [.nfn], .other⟩ := by kernel_rfl
theorem tt102 : ttOf Try.prog 102 = some ⟨1, 8, [.nfn], .other⟩ := by kernel_rfl
theorem tt103 : ttOf Try.prog 103 = some ⟨1, 8, [.nfn], .other⟩ := by kernel_rfl
theorem tt104 : ttOf Try.prog 104 = some ⟨1, 8, [.nfn], .other⟩ := by kernel_rfl
theorem tt105 : ttOf Try.prog 105 = some ⟨1, 24, [.nsl], .slice 4⟩ := by kernel_rfl
theorem tt106 : ttOf Try.prog 106 = some ⟨1, 24, [.nsl], .slice 105⟩ := by kernel_rfl
theorem tt107 : ttOf Try.prog 107 = some ⟨1, 8, [.nfn], .other⟩ := by kernel_rfl
theorem tt108 : ttOf Try.prog 108 = some ⟨800, 6400, List.replicate 800 (.int .i64 0), .array 200 81⟩ := by kernel_rfl
theorem tt109 : ttOf Try.prog 109 = some ⟨800, 6400, List.replicate 800 (.int .i64 0), .array 200 81⟩ := by kernel_rfl
theorem tt110 : ttOf Try.prog 110 = some ⟨1, 8, [.nfn], .other⟩ := by kernel_rfl
theorem tt111 : ttOf Try.prog 111 = some ⟨1, 8, [.nfn], .other⟩ := by kernel_rfl
theorem tt112 : ttOf Try.prog 112 = some ⟨1, 8, [.nfn], .other⟩ := by kernel_rfl
theorem tt113 : ttOf Try.prog 113 = some ⟨1, 8, [.nfn], .other⟩ := by kernel_rfl
theorem tt114 : ttOf Try.prog 114 = some ⟨1, 8, [.nfn], .other⟩ := by kernel_rfl
theorem tt115 : ttOf Try.prog 115 = some ⟨1, 8, [.nfn], .other⟩ := by kernel_rfl
theorem tt116 : ttOf Try.prog 116 = some ⟨2, 24, [.str ByteArray.empty, .int .i64 0], .struct [(0, 9), (1, 3)]⟩ := by kernel_rfl
theorem tt117 : ttOf Try.prog 117 = some ⟨2, 24, [.str ByteArray.empty, .int .i64 0], .struct [(0, 9), (1, 3)]⟩ := by kernel_rfl
theorem tt118 : ttOf Try.prog 118 = some ⟨1, 8, [.nfn], .other⟩ := by kernel_rfl
theorem tt119 : ttOf Try.prog 119 = some ⟨1, 8, [.nfn], .other⟩ := by kernel_rfl
theorem tt120 : ttOf Try.prog 120 = some ⟨1, 8, [.nfn], .other⟩ := by kernel_rfl
theorem tt121 : ttOf Try.prog 121 = some ⟨1, 8, [.nfn], .other⟩ := by kernel_rfl
theorem tt122 : ttOf Try.prog 122 = some ⟨2, 16, [.int .i64 0, .int .i64 0], .struct [(0, 3), (1, 3)]⟩ := by kernel_rfl
theorem tt123 : ttOf Try.prog 123 = some ⟨2, 16, [.int .i64 0, .int .i64 0], .struct [(0, 3), (1, 3)]⟩ := by kernel_rfl
theorem tt124 : ttOf Try.prog 124 = some ⟨1, 8, [.nfn], .other⟩ := by kernel_rfl
theorem tt125 : ttOf Try.prog 125 = some ⟨1, 8, [.nfn], .other⟩ := by kernel_rfl
theorem tt126 : ttOf Try.prog 126 = some ⟨1, 8, [.nmap], .map 60 4⟩ := by kernel_rfl
theorem tt127 : ttOf Try.prog 127 = some ⟨1, 8, [.nfn], .other⟩ := by kernel_rfl
theorem tt129 : ttOf Try.prog 129 = some ⟨1, 8, [.nfn], .other⟩ := by kernel_rfl
theorem tt131 : ttOf Try.prog 131 = some ⟨1, 8, [.nfn], .other⟩ := by kernel_rfl
theorem tt132 : ttOf Try.prog 132 = some ⟨1, 8, [.nfn], .other⟩ := by kernel_rfl
theorem tt133 : ttOf Try.prog 133 = some ⟨1, 8, [.nfn], .other⟩ := by kernel_rfl
theorem tt134 : ttOf Try.prog 134 = some ⟨1, 8, [.nfn], .other⟩ := by kernel_rfl
theorem tt135 : ttOf Try.prog 135 = some ⟨1, 8, [.nfn], .other⟩ := by kernel_rfl
theorem tt136 : ttOf Try.prog 136 = some ⟨1, 8, [.nfn], .other⟩ := by kernel_rfl
theorem tt137 : ttOf Try.prog 137 = some ⟨1, 8, [.nfn], .other⟩ := by kernel_rfl
theorem tt138 : ttOf Try.prog 138 = some ⟨1, 8, [.nfn], .other⟩ := by kernel_rfl
theorem tt139 : ttOf Try.prog 139 = some ⟨1, 8, [.nfn], .other⟩ := by kernel_rfl
theorem tt140 : ttOf Try.prog 140 = some ⟨1, 8, [.nfn], .other⟩ := by kernel_rfl
theorem tt141 : ttOf Try.prog 141 = some ⟨1, 8, [.nfn], .other⟩ := by kernel_rfl
theorem tt142 : ttOf Try.prog 142 = some ⟨1, 8, [.int .u64 0], .int (.u64)⟩ := by kernel_rfl
theorem tt143 : ttOf Try.prog 143 = some ⟨1, 8, [.nfn], .other⟩ := by kernel_rfl
theorem tt144 : ttOf Try.prog 144 = some ⟨1, 8, [.nfn], .other⟩ := by kernel_rfl
theorem tt145 : ttOf Try.prog 145 = some ⟨1, 8, [.nfn], .other⟩ := by kernel_rfl
theorem tt146 : ttOf Try.prog 146 = some ⟨4, 40, [.nptr, .nptr, .nptr, .str ByteArray.empty], .struct [(0, 17), (1, 17), (2, 17), (3, 9)]⟩ := by kernel_rfl
theorem tt147 : ttOf Try.prog 147 = some ⟨4, 40, [.nptr, .nptr, .nptr, .str ByteArray.empty], .struct [(0, 17), (1, 17), (2, 17), (3, 9)]⟩ := by kernel_rfl
theorem tt148 : ttOf Try.prog 148 = some ⟨0, 0, [], .array 0 16⟩ := by kernel_rfl
theorem tt149 : ttOf Try.prog 149 = some ⟨0, 0, [], .struct [(0, 148)]⟩ := by kernel_rfl
theorem tt150 : ttOf Try.prog 150 = some ⟨0, 0, [], .struct [(0, 148)]⟩ := by kernel_rfl
theorem tt151 : ttOf Try.prog 151 = some ⟨1, 8, [.nfn], .other⟩ := by kernel_rfl
theorem tt152 : ttOf Try.prog 152 = some ⟨1, 4, [.int .u32 0], .int (.u32)⟩ := by kernel_rfl
theorem tt153 : ttOf Try.prog 153 = some ⟨1, 1, [.int .u8 0], .int (.u8)⟩ := by kernel_rfl
theorem tt154 : ttOf Try.prog 154 = some ⟨1, 1, [.int .u8 0], .int (.u8)⟩ := by kernel_rfl
theorem tt155 : ttOf Try.prog 155 = some ⟨1, 8, [.nfn], .other⟩ := by kernel_rfl
theorem tt156 : ttOf Try.prog 156 = some ⟨1, 8, [.nptr], .ptr 5⟩ := by kernel_rfl
theorem tt157 : ttOf Try.prog 157 = some ⟨1, 4, [.int .i32 0], .int (.i32)⟩ := by kernel_rfl
theorem tt158 : ttOf Try.prog 158 = some ⟨1, 4, [.int .i32 0], .int (.i32)⟩ := by kernel_rfl
theorem tt159 : ttOf Try.prog 159 = some ⟨11, 48, [.int .u64 0, .int .u64 0, .int .u32 0, .int .u8 0, .int .u8 0, .int .u8 0, .int .u8 0, .nfn, .nptr, .int .i32 0, .int .i32 0], .struct [(0, 12), (1, 12), (2, 152), (3, 153), (4, 5), (5, 5), (6, 154), (7, 155), (8, 156), (9, 157), (10, 158)]⟩ := by kernel_rfl
theorem tt160 : ttOf Try.prog 160 = some ⟨11, 48, [.int .u64 0, .int .u64 0, .int .u32 0, .int .u8 0, .int .u8 0, .int .u8 0, .int .u8 0, .nfn, .nptr, .int .i32 0, .int .i32 0], .struct [(0, 12), (1, 12), (2, 152), (3, 153), (4, 5), (5, 5), (6, 154), (7, 155), (8, 156), (9, 157), (10, 158)]⟩ := by kernel_rfl
theorem tt161 : ttOf Try.prog 161 = some ⟨1, 8, [.nptr], .other⟩ := by kernel_rfl
theorem ttOk0 : ∀ p ∈ tyTab0, ttOf Try.prog p.1 = some p.2 := by
  unfold tyTab0
  simp only [List.forall_mem_cons]
  exact ⟨tt1, tt2, tt3, tt4, tt5, tt6, tt7, tt8, tt9, tt10, tt11, tt12, tt13, tt14, tt15, tt16, tt17, tt18, tt19, tt21, tt22, tt23, tt24, tt25, tt26, tt27, tt28, tt29, tt30, tt31, by simp⟩
theorem ttOk1 : ∀ p ∈ tyTab1, ttOf Try.prog p.1 = some p.2 := by
  unfold tyTab1
  simp only [List.forall_mem_cons]
  exact ⟨tt33, tt34, tt35, tt36, tt37, tt38, tt39, tt40, tt42, tt43, tt44, tt45, tt46, tt47, tt48, tt50, tt51, tt52, tt53, tt55, tt56, tt57, tt58, tt59, tt60, tt62, tt63, tt64, tt66, tt67, by simp⟩
theorem ttOk2 : ∀ p ∈ tyTab2, ttOf Try.prog p.1 = some p.2 := by
  unfold tyTab2
  simp only [List.forall_mem_cons]
  exact ⟨tt68, tt69, tt70, tt71, tt72, tt73, tt75, tt76, tt77, tt78, tt80, tt81, tt83, tt84, tt86, tt87, tt88, tt89, tt90, tt91, tt92, tt94, tt95, tt96, tt97, tt98, tt99, tt100, tt101, tt102, by simp⟩
theorem ttOk3 : ∀ p ∈ tyTab3, ttOf Try.prog p.1 = some p.2 := by
  unfold tyTab3
  simp only [List.forall_mem_cons]
  exact ⟨tt103, tt104, tt105, tt106, tt107, tt108, tt109, tt110, tt111, tt112, tt113, tt114, tt115, tt116, tt117, tt118, tt119, tt120, tt121, tt122, tt123, tt124, tt125, tt126, tt127, tt129, tt131, tt132, tt133, tt134, by simp⟩
theorem ttOk4 : ∀ p ∈ tyTab4, ttOf Try.prog p.1 = some p.2 := by
  unfold tyTab4
  simp only [List.forall_mem_cons]
  exact ⟨tt135, tt136, tt137, tt138, tt139, tt140, tt141, tt142, tt143, tt144, tt145, tt146, tt147, tt148, tt149, tt150, tt151, tt152, tt153, tt154, tt155, tt156, tt157, tt158, tt159, tt160, tt161, by simp⟩
theorem ttOk : ∀ p ∈ tyTab, ttOf Try.prog p.1 = some p.2 := by
  unfold tyTab
  simp only [List.forall_mem_append]
  exact ⟨⟨⟨⟨ttOk0, ttOk1⟩, ttOk2⟩, ttOk3⟩, ttOk4⟩
theorem fn2 : FnTie Try.prog 2 ⟨1, [], Try.f2.body.getD .skip⟩ := ⟨Try.f2, Try.func2, rfl, rfl, rfl, rfl⟩
theorem fn3 : FnTie Try.prog 3 ⟨181, [.tmp 4], Try.f3.body.getD .skip⟩ := ⟨Try.f3, Try.func3, rfl, rfl, rfl, rfl⟩
theorem fn4 : FnTie Try.prog 4 ⟨147, [.tmp 8], Try.f4.body.getD .skip⟩ := ⟨Try.f4, Try.func4, rfl, rfl, rfl, rfl⟩
theorem fn5 : FnTie Try.prog 5 ⟨52, [.tmp 2], Try.f5.body.getD .skip⟩ := ⟨Try.f5, Try.func5, rfl, rfl, rfl, rfl⟩
theorem fn6 : FnTie Try.prog 6 ⟨85, [.tmp 0], Try.f6.body.getD .skip⟩ := ⟨Try.f6, Try.func6, rfl, rfl, rfl, rfl⟩
theorem fn7 : FnTie Try.prog 7 ⟨33, [.tmp 2], Try.f7.body.getD .skip⟩ := ⟨Try.f7, Try.func7, rfl, rfl, rfl, rfl⟩
theorem fn8 : FnTie Try.prog 8 ⟨12, [.tmp 2], Try.f8.body.getD .skip⟩ := ⟨Try.f8, Try.func8, rfl, rfl, rfl, rfl⟩
theorem fn9 : FnTie Try.prog 9 ⟨10, [.tmp 4], Try.f9.body.getD .skip⟩ := ⟨Try.f9, Try.func9, rfl, rfl, rfl, rfl⟩
theorem fn10 : FnTie Try.prog 10 ⟨54, [.tmp 4, .tmp 5], Try.f10.body.getD .skip⟩ := ⟨Try.f10, Try.func10, rfl, rfl, rfl, rfl⟩
theorem fn11 : FnTie Try.prog 11 ⟨21, [.tmp 4, .tmp 5], Try.f11.body.getD .skip⟩ := ⟨Try.f11, Try.func11, rfl, rfl, rfl, rfl⟩
theorem fn12 : FnTie Try.prog 12 ⟨23, [.tmp 2], Try.f12.body.getD .skip⟩ := ⟨Try.f12, Try.func12, rfl, rfl, rfl, rfl⟩
theorem fn13 : FnTie Try.prog 13 ⟨60, [.tmp 6, .tmp 7], Try.f13.body.getD .skip⟩ := ⟨Try.f13, Try.func13, rfl, rfl, rfl, rfl⟩
theorem fn14 : FnTie Try.prog 14 ⟨12, [.tmp 2], Try.f14.body.getD .skip⟩ := ⟨Try.f14, Try.func14, rfl, rfl, rfl, rfl⟩
theorem fn15 : FnTie Try.prog 15 ⟨32, [.tmp 6], Try.f15.body.getD .skip⟩ := ⟨Try.f15, Try.func15, rfl, rfl, rfl, rfl⟩
theorem fn16 : FnTie Try.prog 16 ⟨90, [.tmp 6], Try.f16.body.getD .skip⟩ := ⟨Try.f16, Try.func16, rfl, rfl, rfl, rfl⟩
theorem fn17 : FnTie Try.prog 17 ⟨37, [.tmp 4], Try.f17.body.getD .skip⟩ := ⟨Try.f17, Try.func17, rfl, rfl, rfl, rfl⟩
theorem fn18 : FnTie Try.prog 18 ⟨22, [.tmp 4], Try.f18.body.getD .skip⟩ := ⟨Try.f18, Try.func18, rfl, rfl, rfl, rfl⟩
theorem fn19 : FnTie Try.prog 19 ⟨27, [.tmp 4], Try.f19.body.getD .skip⟩ := ⟨Try.f19, Try.func19, rfl, rfl, rfl, rfl⟩
theorem fn20 : FnTie Try.prog 20 ⟨41, [.tmp 4], Try.f20.body.getD .skip⟩ := ⟨Try.f20, Try.func20, rfl, rfl, rfl, rfl⟩
theorem fn21 : FnTie Try.prog 21 ⟨31, [.tmp 4], Try.f21.body.getD .skip⟩ := ⟨Try.f21, Try.func21, rfl, rfl, rfl, rfl⟩
theorem fn22 : FnTie Try.prog 22 ⟨74, [.tmp 2], Try.f22.body.getD .skip⟩ := ⟨Try.f22, Try.func22, rfl, rfl, rfl, rfl⟩
theorem fn23 : FnTie Try.prog 23 ⟨68, [.tmp 6, .tmp 7, .tmp 8], Try.f23.body.getD .skip⟩ := ⟨Try.f23, Try.func23, rfl, rfl, rfl, rfl⟩
theorem fn24 : FnTie Try.prog 24 ⟨116, [.cell 8 53, .tmp 9], Try.f24.body.getD .skip⟩ := ⟨Try.f24, Try.func24, rfl, rfl, rfl, rfl⟩
theorem fn25 : FnTie Try.prog 25 ⟨26, [.tmp 4], Try.f25.body.getD .skip⟩ := ⟨Try.f25, Try.func25, rfl, rfl, rfl, rfl⟩
theorem fn26 : FnTie Try.prog 26 ⟨9, [.tmp 4], Try.f26.body.getD .skip⟩ := ⟨Try.f26, Try.func26, rfl, rfl, rfl, rfl⟩
theorem fn27 : FnTie Try.prog 27 ⟨7, [.tmp 2], Try.f27.body.getD .skip⟩ := ⟨Try.f27, Try.func27, rfl, rfl, rfl, rfl⟩
theorem fn28 : FnTie Try.prog 28 ⟨66, [.cell 2 60, .cell 3 31], Try.f28.body.getD .skip⟩ := ⟨Try.f28, Try.func28, rfl, rfl, rfl, rfl⟩
theorem fn29 : FnTie Try.prog 29 ⟨50, [.tmp 6], Try.f29.body.getD .skip⟩ := ⟨Try.f29, Try.func29, rfl, rfl, rfl, rfl⟩
theorem fn30 : FnTie Try.prog 30 ⟨34, [.tmp 4, .tmp 5], Try.f30.body.getD .skip⟩ := ⟨Try.f30, Try.func30, rfl, rfl, rfl, rfl⟩
theorem fn31 : FnTie Try.prog 31 ⟨74, [.cell 6 68], Try.f31.body.getD .skip⟩ := ⟨Try.f31, Try.func31, rfl, rfl, rfl, rfl⟩
theorem fn32 : FnTie Try.prog 32 ⟨22, [.tmp 4], Try.f32.body.getD .skip⟩ := ⟨Try.f32, Try.func32, rfl, rfl, rfl, rfl⟩
theorem fn33 : FnTie Try.prog 33 ⟨6, [.tmp 2], Try.f33.body.getD .skip⟩ := ⟨Try.f33, Try.func33, rfl, rfl, rfl, rfl⟩
theorem fn34 : FnTie Try.prog 34 ⟨37, [.tmp 6], Try.f34.body.getD .skip⟩ := ⟨Try.f34, Try.func34, rfl, rfl, rfl, rfl⟩
theorem fn35 : FnTie Try.prog 35 ⟨19, [.tmp 4], Try.f35.body.getD .skip⟩ := ⟨Try.f35, Try.func35, rfl, rfl, rfl, rfl⟩
theorem fn36 : FnTie Try.prog 36 ⟨14, [.tmp 3], Try.f36.body.getD .skip⟩ := ⟨Try.f36, Try.func36, rfl, rfl, rfl, rfl⟩
theorem fn37 : FnTie Try.prog 37 ⟨137, [.cell 2 60, .tmp 3], Try.f37.body.getD .skip⟩ := ⟨Try.f37, Try.func37, rfl, rfl, rfl, rfl⟩
theorem fn38 : FnTie Try.prog 38 ⟨52, [.cell 6 60], Try.f38.body.getD .skip⟩ := ⟨Try.f38, Try.func38, rfl, rfl, rfl, rfl⟩
theorem fn39 : FnTie Try.prog 39 ⟨11, [.tmp 4], Try.f39.body.getD .skip⟩ := ⟨Try.f39, Try.func39, rfl, rfl, rfl, rfl⟩
theorem fn40 : FnTie Try.prog 40 ⟨31, [.tmp 4], Try.f40.body.getD .skip⟩ := ⟨Try.f40, Try.func40, rfl, rfl, rfl, rfl⟩
theorem fn41 : FnTie Try.prog 41 ⟨27, [.tmp 4], Try.f41.body.getD .skip⟩ := ⟨Try.f41, Try.func41, rfl, rfl, rfl, rfl⟩
theorem fn42 : FnTie Try.prog 42 ⟨26, [.tmp 4], Try.f42.body.getD .skip⟩ := ⟨Try.f42, Try.func42, rfl, rfl, rfl, rfl⟩
theorem fn43 : FnTie Try.prog 43 ⟨62, [.tmp 8], Try.f43.body.getD .skip⟩ := ⟨Try.f43, Try.func43, rfl, rfl, rfl, rfl⟩
theorem fn44 : FnTie Try.prog 44 ⟨64, [.cell 2 78, .cell 3 60, .cell 4 31], Try.f44.body.getD .skip⟩ := ⟨Try.f44, Try.func44, rfl, rfl, rfl, rfl⟩
theorem fn45 : FnTie Try.prog 45 ⟨11, [.tmp 4, .tmp 5], Try.f45.body.getD .skip⟩ := ⟨Try.f45, Try.func45, rfl, rfl, rfl, rfl⟩
theorem fn46 : FnTie Try.prog 46 ⟨42, [.tmp 8], Try.f46.body.getD .skip⟩ := ⟨Try.f46, Try.func46, rfl, rfl, rfl, rfl⟩
theorem fn47 : FnTie Try.prog 47 ⟨50, [.tmp 8, .tmp 9], Try.f47.body.getD .skip⟩ := ⟨Try.f47, Try.func47, rfl, rfl, rfl, rfl⟩
theorem fn48 : FnTie Try.prog 48 ⟨15, [.tmp 6], Try.f48.body.getD .skip⟩ := ⟨Try.f48, Try.func48, rfl, rfl, rfl, rfl⟩
theorem fn49 : FnTie Try.prog 49 ⟨62, [.tmp 4], Try.f49.body.getD .skip⟩ := ⟨Try.f49, Try.func49, rfl, rfl, rfl, rfl⟩
theorem fn50 : FnTie Try.prog 50 ⟨4, [.tmp 2], Try.f50.body.getD .skip⟩ := ⟨Try.f50, Try.func50, rfl, rfl, rfl, rfl⟩
theorem fn51 : FnTie Try.prog 51 ⟨82, [.tmp 6], Try.f51.body.getD .skip⟩ := ⟨Try.f51, Try.func51, rfl, rfl, rfl, rfl⟩
theorem fn52 : FnTie Try.prog 52 ⟨58, [.cell 4 60, .cell 5 4], Try.f52.body.getD .skip⟩ := ⟨Try.f52, Try.func52, rfl, rfl, rfl, rfl⟩
theorem fn53 : FnTie Try.prog 53 ⟨13, [.tmp 4], Try.f53.body.getD .skip⟩ := ⟨Try.f53, Try.func53, rfl, rfl, rfl, rfl⟩
theorem fn54 : FnTie Try.prog 54 ⟨28, [.tmp 4], Try.f54.body.getD .skip⟩ := ⟨Try.f54, Try.func54, rfl, rfl, rfl, rfl⟩
theorem fn55 : FnTie Try.prog 55 ⟨14, [.tmp 4], Try.f55.body.getD .skip⟩ := ⟨Try.f55, Try.func55, rfl, rfl, rfl, rfl⟩
theorem fn56 : FnTie Try.prog 56 ⟨17, [.tmp 4], Try.f56.body.getD .skip⟩ := ⟨Try.f56, Try.func56, rfl, rfl, rfl, rfl⟩
theorem fn57 : FnTie Try.prog 57 ⟨17, [.tmp 4], Try.f57.body.getD .skip⟩ := ⟨Try.f57, Try.func57, rfl, rfl, rfl, rfl⟩
theorem fn58 : FnTie Try.prog 58 ⟨9, [.tmp 4], Try.f58.body.getD .skip⟩ := ⟨Try.f58, Try.func58, rfl, rfl, rfl, rfl⟩
theorem fn59 : FnTie Try.prog 59 ⟨5, [.tmp 2], Try.f59.body.getD .skip⟩ := ⟨Try.f59, Try.func59, rfl, rfl, rfl, rfl⟩
theorem fn60 : FnTie Try.prog 60 ⟨9, [.tmp 4], Try.f60.body.getD .skip⟩ := ⟨Try.f60, Try.func60, rfl, rfl, rfl, rfl⟩
theorem fn61 : FnTie Try.prog 61 ⟨5, [.tmp 2], Try.f61.body.getD .skip⟩ := ⟨Try.f61, Try.func61, rfl, rfl, rfl, rfl⟩
theorem fn62 : FnTie Try.prog 62 ⟨81, [.tmp 4], Try.f62.body.getD .skip⟩ := ⟨Try.f62, Try.func62, rfl, rfl, rfl, rfl⟩
theorem fn63 : FnTie Try.prog 63 ⟨147, [.tmp 6], Try.f63.body.getD .skip⟩ := ⟨Try.f63, Try.func63, rfl, rfl, rfl, rfl⟩
theorem fn64 : FnTie Try.prog 64 ⟨70, [.tmp 4], Try.f64.body.getD .skip⟩ := ⟨Try.f64, Try.func64, rfl, rfl, rfl, rfl⟩
theorem fn65 : FnTie Try.prog 65 ⟨86, [.tmp 2], Try.f65.body.getD .skip⟩ := ⟨Try.f65, Try.func65, rfl, rfl, rfl, rfl⟩
theorem fn66 : FnTie Try.prog 66 ⟨75, [.tmp 4], Try.f66.body.getD .skip⟩ := ⟨Try.f66, Try.func66, rfl, rfl, rfl, rfl⟩
theorem fn67 : FnTie Try.prog 67 ⟨35, [.tmp 8], Try.f67.body.getD .skip⟩ := ⟨Try.f67, Try.func67, rfl, rfl, rfl, rfl⟩
theorem fn68 : FnTie Try.prog 68 ⟨17, [.tmp 8], Try.f68.body.getD .skip⟩ := ⟨Try.f68, Try.func68, rfl, rfl, rfl, rfl⟩
theorem fn69 : FnTie Try.prog 69 ⟨40, [.tmp 6, .tmp 7], Try.f69.body.getD .skip⟩ := ⟨Try.f69, Try.func69, rfl, rfl, rfl, rfl⟩
theorem fn70 : FnTie Try.prog 70 ⟨12, [], Try.f70.body.getD .skip⟩ := ⟨Try.f70, Try.func70, rfl, rfl, rfl, rfl⟩
theorem fn71 : FnTie Try.prog 71 ⟨11, [.tmp 4, .tmp 5], Try.f71.body.getD .skip⟩ := ⟨Try.f71, Try.func71, rfl, rfl, rfl, rfl⟩
theorem fn72 : FnTie Try.prog 72 ⟨41, [.tmp 2], Try.f72.body.getD .skip⟩ := ⟨Try.f72, Try.func72, rfl, rfl, rfl, rfl⟩
theorem fn73 : FnTie Try.prog 73 ⟨9, [.tmp 4], Try.f73.body.getD .skip⟩ := ⟨Try.f73, Try.func73, rfl, rfl, rfl, rfl⟩
theorem fn74 : FnTie Try.prog 74 ⟨9, [.tmp 3], Try.f74.body.getD .skip⟩ := ⟨Try.f74, Try.func74, rfl, rfl, rfl, rfl⟩
theorem fn75 : FnTie Try.prog 75 ⟨9, [.tmp 4], Try.f75.body.getD .skip⟩ := ⟨Try.f75, Try.func75, rfl, rfl, rfl, rfl⟩
theorem fn76 : FnTie Try.prog 76 ⟨9, [.tmp 3], Try.f76.body.getD .skip⟩ := ⟨Try.f76, Try.func76, rfl, rfl, rfl, rfl⟩
theorem fn77 : FnTie Try.prog 77 ⟨33, [], Try.f77.body.getD .skip⟩ := ⟨Try.f77, Try.func77, rfl, rfl, rfl, rfl⟩
theorem fn78 : FnTie Try.prog 78 ⟨40, [.tmp 6], Try.f78.body.getD .skip⟩ := ⟨Try.f78, Try.func78, rfl, rfl, rfl, rfl⟩
theorem fn79 : FnTie Try.prog 79 ⟨9, [.tmp 4], Try.f79.body.getD .skip⟩ := ⟨Try.f79, Try.func79, rfl, rfl, rfl, rfl⟩
theorem fn80 : FnTie Try.prog 80 ⟨9, [.tmp 3], Try.f80.body.getD .skip⟩ := ⟨Try.f80, Try.func80, rfl, rfl, rfl, rfl⟩
theorem fn81 : FnTie Try.prog 81 ⟨62, [.tmp 6], Try.f81.body.getD .skip⟩ := ⟨Try.f81, Try.func81, rfl, rfl, rfl, rfl⟩
theorem fn82 : FnTie Try.prog 82 ⟨10, [.tmp 3], Try.f82.body.getD .skip⟩ := ⟨Try.f82, Try.func82, rfl, rfl, rfl, rfl⟩
theorem fn83 : FnTie Try.prog 83 ⟨61, [.cell 4 60, .cell 5 60, .tmp 6], Try.f83.body.getD .skip⟩ := ⟨Try.f83, Try.func83, rfl, rfl, rfl, rfl⟩
theorem fn84 : FnTie Try.prog 84 ⟨54, [.tmp 4, .tmp 5], Try.f84.body.getD .skip⟩ := ⟨Try.f84, Try.func84, rfl, rfl, rfl, rfl⟩
theorem fn85 : FnTie Try.prog 85 ⟨19, [.tmp 4], Try.f85.body.getD .skip⟩ := ⟨Try.f85, Try.func85, rfl, rfl, rfl, rfl⟩
theorem fn86 : FnTie Try.prog 86 ⟨19, [.tmp 4], Try.f86.body.getD .skip⟩ := ⟨Try.f86, Try.func86, rfl, rfl, rfl, rfl⟩
theorem fn87 : FnTie Try.prog 87 ⟨42, [.tmp 2], Try.f87.body.getD .skip⟩ := ⟨Try.f87, Try.func87, rfl, rfl, rfl, rfl⟩
theorem fn88 : FnTie Try.prog 88 ⟨9, [.tmp 2], Try.f88.body.getD .skip⟩ := ⟨Try.f88, Try.func88, rfl, rfl, rfl, rfl⟩
theorem fn89 : FnTie Try.prog 89 ⟨17, [.cell 4 40], Try.f89.body.getD .skip⟩ := ⟨Try.f89, Try.func89, rfl, rfl, rfl, rfl⟩
theorem fn90 : FnTie Try.prog 90 ⟨33, [.tmp 4], Try.f90.body.getD .skip⟩ := ⟨Try.f90, Try.func90, rfl, rfl, rfl, rfl⟩
theorem fn91 : FnTie Try.prog 91 ⟨20, [.tmp 4], Try.f91.body.getD .skip⟩ := ⟨Try.f91, Try.func91, rfl, rfl, rfl, rfl⟩
theorem fn92 : FnTie Try.prog 92 ⟨8, [.tmp 2], Try.f92.body.getD .skip⟩ := ⟨Try.f92, Try.func92, rfl, rfl, rfl, rfl⟩
theorem fn93 : FnTie Try.prog 93 ⟨13, [], Try.f93.body.getD .skip⟩ := ⟨Try.f93, Try.func93, rfl, rfl, rfl, rfl⟩
theorem fn94 : FnTie Try.prog 94 ⟨17, [.tmp 2], Try.f94.body.getD .skip⟩ := ⟨Try.f94, Try.func94, rfl, rfl, rfl, rfl⟩
theorem fn95 : FnTie Try.prog 95 ⟨9, [.tmp 2], Try.f95.body.getD .skip⟩ := ⟨Try.f95, Try.func95, rfl, rfl, rfl, rfl⟩
theorem fn96 : FnTie Try.prog 96 ⟨19, [.tmp 4], Try.f96.body.getD .skip⟩ := ⟨Try.f96, Try.func96, rfl, rfl, rfl, rfl⟩
theorem fn97 : FnTie Try.prog 97 ⟨19, [.tmp 4], Try.f97.body.getD .skip⟩ := ⟨Try.f97, Try.func97, rfl, rfl, rfl, rfl⟩
theorem fn98 : FnTie Try.prog 98 ⟨19, [.tmp 4], Try.f98.body.getD .skip⟩ := ⟨Try.f98, Try.func98, rfl, rfl, rfl, rfl⟩
theorem fn99 : FnTie Try.prog 99 ⟨11, [.cell 4 60, .tmp 5], Try.f99.body.getD .skip⟩ := ⟨Try.f99, Try.func99, rfl, rfl, rfl, rfl⟩
theorem fn100 : FnTie Try.prog 100 ⟨17, [.tmp 4], Try.f100.body.getD .skip⟩ := ⟨Try.f100, Try.func100, rfl, rfl, rfl, rfl⟩
theorem fn101 : FnTie Try.prog 101 ⟨6, [.tmp 2], Try.f101.body.getD .skip⟩ := ⟨Try.f101, Try.func101, rfl, rfl, rfl, rfl⟩
theorem fn102 : FnTie Try.prog 102 ⟨17, [.tmp 2], Try.f102.body.getD .skip⟩ := ⟨Try.f102, Try.func102, rfl, rfl, rfl, rfl⟩
theorem fn103 : FnTie Try.prog 103 ⟨9, [.tmp 2], Try.f103.body.getD .skip⟩ := ⟨Try.f103, Try.func103, rfl, rfl, rfl, rfl⟩
theorem fn104 : FnTie Try.prog 104 ⟨30, [.cell 6 60, .cell 7 4], Try.f104.body.getD .skip⟩ := ⟨Try.f104, Try.func104, rfl, rfl, rfl, rfl⟩
theorem fn105 : FnTie Try.prog 105 ⟨6, [.tmp 2], Try.f105.body.getD .skip⟩ := ⟨Try.f105, Try.func105, rfl, rfl, rfl, rfl⟩
theorem fnOk0 : ∀ p ∈ fnTab0, FnTie Try.prog p.1 p.2 := by
  unfold fnTab0
  simp only [List.forall_mem_cons]
  exact ⟨fn2, fn3, fn4, fn5, fn6, fn7, fn8, fn9, fn10, fn11, fn12, fn13, fn14, fn15, fn16, fn17, fn18, fn19, fn20, fn21, fn22, fn23, fn24, fn25, fn26, fn27, fn28, fn29, fn30, fn31, by simp⟩
theorem fnOk1 : ∀ p ∈ fnTab1, FnTie Try.prog p.1 p.2 := by
  unfold fnTab1
  simp only [List.forall_mem_cons]
  exact ⟨fn32, fn33, fn34, fn35, fn36, fn37, fn38, fn39, fn40, fn41, fn42, fn43, fn44, fn45, fn46, fn47, fn48, fn49, fn50, fn51, fn52, fn53, fn54, fn55, fn56, fn57, fn58, fn59, fn60, fn61, by simp⟩
theorem fnOk2 : ∀ p ∈ fnTab2, FnTie Try.prog p.1 p.2 := by
  unfold fnTab2
  simp only [List.forall_mem_cons]
  exact ⟨fn62, fn63, fn64, fn65, fn66, fn67, fn68, fn69, fn70, fn71, fn72, fn73, fn74, fn75, fn76, fn77, fn78, fn79, fn80, fn81, fn82, fn83, fn84, fn85, fn86, fn87, fn88, fn89, fn90, fn91, by simp⟩
theorem fnOk3 : ∀ p ∈ fnTab3, FnTie Try.prog p.1 p.2 := by
  unfold fnTab3
  simp only [List.forall_mem_cons]
  exact ⟨fn92, fn93, fn94, fn95, fn96, fn97, fn98, fn99, fn100, fn101, fn102, fn103, fn104, fn105, by simp⟩
theorem fnOk : ∀ p ∈ fnTab, FnTie Try.prog p.1 p.2 := by
  unfold fnTab
  simp only [List.forall_mem_append]
  exact ⟨⟨⟨fnOk0, fnOk1⟩, fnOk2⟩, fnOk3⟩
theorem eq60 : EqOk Try.prog 60 2 := EqOk.two (i := 3) Try.underlying60 rfl rfl rfl rfl (by decide) (by decide) tt3 Try.underlying3 (by kernel_rfl) (by kernel_rfl)
theorem envOk : EnvOk Try.prog E where
  tt := fun t d h => ttOk (t, d) (lk_mem (l := tyTab) h)
  ft := fun f fi h => fnOk (f, fi) (lk_mem (l := fnTab) h)
  eqN := by
    intro t n h
    change (if [60].contains t then some 2 else none) = some n at h
    split at h
    · rename_i hc
      simp only [Option.some.injEq] at h; subst h
      simp only [List.contains_cons, List.contains_nil, Bool.or_false, Bool.or_eq_true, beq_iff_eq] at hc
      subst hc; exact eq60
    · simp at h
theorem mixed : Try.prog.follows .mixedOrders = true := by kernel_rfl
theorem calls (n : Nat) : CallOK Try.prog (run E n) := run_sound envOk mixed n
end Go.Proofs.Ytnfakljmdnbipaa
namespace Go.Proofs.Ytnfakljmdnbipaa
open Go.VE Go.Proofs
def a0 : V := .clo 74 [] [.fptr [.str (ByteArray.mk #[97]), .nsl, .fsl 5 [[.int .i64 2, .int .i64 1, .int .i64 1, .int .i64 0, .nsl], [.int .i64 2, .int .i64 1, .int .i64 2, .int .i64 0, .nsl]]]]
def a1 : V := .agg [.fsl 3 [[.str (ByteArray.mk #[97]), .nsl, .fsl 5 [[.int .i64 2, .int .i64 1, .int .i64 1, .int .i64 0, .nsl], [.int .i64 2, .int .i64 1, .int .i64 2, .int .i64 0, .nsl]]], [.str (ByteArray.mk #[98]), .nsl, .fsl 5 [[.int .i64 3, .int .i64 0, .int .i64 1, .int .i64 0, .nsl]]]]]
def a2 : V := .fsl 3 [[.str (ByteArray.mk #[97]), .nsl, .fsl 5 [[.int .i64 2, .int .i64 1, .int .i64 1, .int .i64 0, .nsl], [.int .i64 2, .int .i64 1, .int .i64 2, .int .i64 0, .nsl]]]]
def a3 : V := .clo 74 [] [.fptr [.str (ByteArray.mk #[98]), .nsl, .fsl 5 [[.int .i64 3, .int .i64 0, .int .i64 1, .int .i64 0, .nsl]]]]
def a4 : V := .agg [.int .i64 2, .int .i64 1, .int .i64 1, .int .i64 0, .nsl]
def a5 : V := .agg [.int .i64 0, .int .i64 1]
def a6 : V := .agg [.int .i64 2, .int .i64 1, .int .i64 2, .int .i64 0, .nsl]
def a7 : V := .agg [.int .i64 0, .int .i64 2]
def a8 : V := .agg [.int .i64 3, .int .i64 0, .int .i64 1, .int .i64 0, .nsl]
def a9 : V := .agg [.int .i64 1, .int .i64 1]
def a10 : V := .fsl 5 [[.int .i64 2, .int .i64 1, .int .i64 1, .int .i64 0, .nsl], [.int .i64 2, .int .i64 1, .int .i64 2, .int .i64 0, .nsl]]
def a11 : V := .clo 91 [] [.fptr [.int .i64 1], .fptr [.int .i64 1]]
def a12 : V := .fptr [.int .i64 0, .int .i64 0, .int .i64 0, .int .i64 0, .int .i64 0, .int .i64 1, .int .i64 1, .int .i64 1, .int .i64 0, .int .i64 2, .int .i64 0, .int .i64 0, .int .i64 0, .int .i64 0, .int .i64 0, .int .i64 0, .int .i64 0, .int .i64 0, .int .i64 0, .int .i64 0, .int .i64 0, .int .i64 0, .int .i64 0, .int .i64 0, .int .i64 0, .int .i64 0, .int .i64 0, .int .i64 0, .int .i64 0, .int .i64 0, .int .i64 0, .int .i64 0, .int .i64 0, .int .i64 0, .int .i64 0, .int .i64 0, .int .i64 0, .int .i64 0, .int .i64 0, .int .i64 0, .int .i64 0, .int .i64 0, .int .i64 0, .int .i64 0, .int .i64 0, .int .i64 0, .int .i64 0, .int .i64 0, .int .i64 0, .int .i64 0, .int .i64 0, .int .i64 0, .int .i64 0, .int .i64 0, .int .i64 0, .int .i64 0, .int .i64 0, .int .i64 0, .int .i64 0, .int .i64 0, .int .i64 0, .int .i64 0, .int .i64 0, .int .i64 0, .int .i64 0, .int .i64 0, .int .i64 0, .int .i64 0, .int .i64 0, .int .i64 0, .int .i64 0, .int .i64 0, .int .i64 0, .int .i64 0, .int .i64 0, .int .i64 0, .int .i64 0, .int .i64 0, .int .i64 0, .int .i64 0, .int .i64 0, .int .i64 0, .int .i64 0, .int .i64 0, .int .i64 0, .int .i64 0, .int .i64 0, .int .i64 0, .int .i64 0, .int .i64 0, .int .i64 0, .int .i64 0, .int .i64 0, .int .i64 0, .int .i64 0, .int .i64 0, .int .i64 0, .int .i64 0, .int .i64 0, .int .i64 0, .int .i64 0, .int .i64 0, .int .i64 0, .int .i64 0, .int .i64 0, .int .i64 0, .int .i64 0, .int .i64 0, .int .i64 0, .int .i64 0, .int .i64 0, .int .i64 0, .int .i64 0, .int .i64 0, .int .i64 0, .int .i64 0, .int .i64 0, .int .i64 0, .int .i64 0, .int .i64 0, .int .i64 0, .int .i64 0, .int .i64 0, .int .i64 0, .int .i64 0, .int .i64 0, .int .i64 0, .int .i64 0, .int .i64 0, .int .i64 0, .int .i64 0, .int .i64 0, .int .i64 0, .int .i64 0, .int .i64 0, .int .i64 0, .int .i64 0, .int .i64 0, .int .i64 0, .int .i64 0, .int .i64 0, .int .i64 0, .int .i64 0, .int .i64 0, .int .i64 0, .int .i64 0, .int .i64 0, .int .i64 0, .int .i64 0, .int .i64 0, .int .i64 0, .int .i64 0, .int .i64 0, .int .i64 0, .int .i64 0, .int .i64 0, .int .i64 0, .int .i64 0, .int .i64 0, .int .i64 0, .int .i64 0, .int .i64 0, .int .i64 0, .int .i64 0, .int .i64 0, .int .i64 0, .int .i64 0, .int .i64 0, .int .i64 0, .int .i64 0, .int .i64 0, .int .i64 0, .int .i64 0, .int .i64 0, .int .i64 0, .int .i64 0, .int .i64 0, .int .i64 0, .int .i64 0, .int .i64 0, .int .i64 0, .int .i64 0, .int .i64 0, .int .i64 0, .int .i64 0, .int .i64 0, .int .i64 0, .int .i64 0, .int .i64 0, .int .i64 0, .int .i64 0, .int .i64 0, .int .i64 0, .int .i64 0, .int .i64 0, .int .i64 0, .int .i64 0, .int .i64 0, .int .i64 0, .int .i64 0, .int .i64 0, .int .i64 0, .int .i64 0, .int .i64 0, .int .i64 0, .int .i64 0, .int .i64 0, .int .i64 0, .int .i64 0, .int .i64 0, .int .i64 0, .int .i64 0, .int .i64 0, .int .i64 0, .int .i64 0, .int .i64 0, .int .i64 0, .int .i64 0, .int .i64 0, .int .i64 0, .int .i64 0, .int .i64 0, .int .i64 0, .int .i64 0, .int .i64 0, .int .i64 0, .int .i64 0, .int .i64 0, .int .i64 0, .int .i64 0, .int .i64 0, .int .i64 0, .int .i64 0, .int .i64 0, .int .i64 0, .int .i64 0, .int .i64 0, .int .i64 0, .int .i64 0, .int .i64 0, .int .i64 0, .int .i64 0, .int .i64 0, .int .i64 0, .int .i64 0, .int .i64 0, .int .i64 0, .int .i64 0, .int .i64 0, .int .i64 0, .int .i64 0, .int .i64 0, .int .i64 0, .int .i64 0, .int .i64 0, .int .i64 0, .int .i64 0, .int .i64 0, .int .i64 0, .int .i64 0, .int .i64 0, .int .i64 0, .int .i64 0, .int .i64 0, .int .i64 0, .int .i64 0, .int .i64 0, .int .i64 0, .int .i64 0, .int .i64 0, .int .i64 0, .int .i64 0, .int .i64 0, .int .i64 0, .int .i64 0, .int .i64 0, .int .i64 0, .int .i64 0, .int .i64 0, .int .i64 0, .int .i64 0, .int .i64 0, .int .i64 0, .int .i64 0, .int .i64 0, .int .i64 0, .int .i64 0, .int .i64 0, .int .i64 0, .int .i64 0, .int .i64 0, .int .i64 0, .int .i64 0, .int .i64 0, .int .i64 0, .int .i64 0, .int .i64 0, .int .i64 0, .int .i64 0, .int .i64 0, .int .i64 0, .int .i64 0, .int .i64 0, .int .i64 0, .int .i64 0, .int .i64 0, .int .i64 0, .int .i64 0, .int .i64 0, .int .i64 0, .int .i64 0, .int .i64 0, .int .i64 0, .int .i64 0, .int .i64 0, .int .i64 0, .int .i64 0, .int .i64 0, .int .i64 0, .int .i64 0, .int .i64 0, .int .i64 0, .int .i64 0, .int .i64 0, .int .i64 0, .int .i64 0, .int .i64 0, .int .i64 0, .int .i64 0, .int .i64 0, .int .i64 0, .int .i64 0, .int .i64 0, .int .i64 0, .int .i64 0, .int .i64 0, .int .i64 0, .int .i64 0, .int .i64 0, .int .i64 0, .int .i64 0, .int .i64 0, .int .i64 0, .int .i64 0, .int .i64 0, .int .i64 0, .int .i64 0, .int .i64 0, .int .i64 0, .int .i64 0, .int .i64 0, .int .i64 0, .int .i64 0, .int .i64 0, .int .i64 0, .int .i64 0, .int .i64 0, .int .i64 0, .int .i64 0, .int .i64 0, .int .i64 0, .int .i64 0, .int .i64 0, .int .i64 0, .int .i64 0, .int .i64 0, .int .i64 0, .int .i64 0, .int .i64 0, .int .i64 0, .int .i64 0, .int .i64 0, .int .i64 0, .int .i64 0, .int .i64 0, .int .i64 0, .int .i64 0, .int .i64 0, .int .i64 0, .int .i64 0, .int .i64 0, .int .i64 0, .int .i64 0, .int .i64 0, .int .i64 0, .int .i64 0, .int .i64 0, .int .i64 0, .int .i64 0, .int .i64 0, .int .i64 0, .int .i64 0, .int .i64 0, .int .i64 0, .int .i64 0, .int .i64 0, .int .i64 0, .int .i64 0, .int .i64 0, .int .i64 0, .int .i64 0, .int .i64 0, .int .i64 0, .int .i64 0, .int .i64 0, .int .i64 0, .int .i64 0, .int .i64 0, .int .i64 0, .int .i64 0, .int .i64 0, .int .i64 0, .int .i64 0, .int .i64 0, .int .i64 0, .int .i64 0, .int .i64 0, .int .i64 0, .int .i64 0, .int .i64 0, .int .i64 0, .int .i64 0, .int .i64 0, .int .i64 0, .int .i64 0, .int .i64 0, .int .i64 0, .int .i64 0, .int .i64 0, .int .i64 0, .int .i64 0, .int .i64 0, .int .i64 0, .int .i64 0, .int .i64 0, .int .i64 0, .int .i64 0, .int .i64 0, .int .i64 0, .int .i64 0, .int .i64 0, .int .i64 0, .int .i64 0, .int .i64 0, .int .i64 0, .int .i64 0, .int .i64 0, .int .i64 0, .int .i64 0, .int .i64 0, .int .i64 0, .int .i64 0, .int .i64 0, .int .i64 0, .int .i64 0, .int .i64 0, .int .i64 0, .int .i64 0, .int .i64 0, .int .i64 0, .int .i64 0, .int .i64 0, .int .i64 0, .int .i64 0, .int .i64 0, .int .i64 0, .int .i64 0, .int .i64 0, .int .i64 0, .int .i64 0, .int .i64 0, .int .i64 0, .int .i64 0, .int .i64 0, .int .i64 0, .int .i64 0, .int .i64 0, .int .i64 0, .int .i64 0, .int .i64 0, .int .i64 0, .int .i64 0, .int .i64 0, .int .i64 0, .int .i64 0, .int .i64 0, .int .i64 0, .int .i64 0, .int .i64 0, .int .i64 0, .int .i64 0, .int .i64 0, .int .i64 0, .int .i64 0, .int .i64 0, .int .i64 0, .int .i64 0, .int .i64 0, .int .i64 0, .int .i64 0, .int .i64 0, .int .i64 0, .int .i64 0, .int .i64 0, .int .i64 0, .int .i64 0, .int .i64 0, .int .i64 0, .int .i64 0, .int .i64 0, .int .i64 0, .int .i64 0, .int .i64 0, .int .i64 0, .int .i64 0, .int .i64 0, .int .i64 0, .int .i64 0, .int .i64 0, .int .i64 0, .int .i64 0, .int .i64 0, .int .i64 0, .int .i64 0, .int .i64 0, .int .i64 0, .int .i64 0, .int .i64 0, .int .i64 0, .int .i64 0, .int .i64 0, .int .i64 0, .int .i64 0, .int .i64 0, .int .i64 0, .int .i64 0, .int .i64 0, .int .i64 0, .int .i64 0, .int .i64 0, .int .i64 0, .int .i64 0, .int .i64 0, .int .i64 0, .int .i64 0, .int .i64 0, .int .i64 0, .int .i64 0, .int .i64 0, .int .i64 0, .int .i64 0, .int .i64 0, .int .i64 0, .int .i64 0, .int .i64 0, .int .i64 0, .int .i64 0, .int .i64 0, .int .i64 0, .int .i64 0, .int .i64 0, .int .i64 0, .int .i64 0, .int .i64 0, .int .i64 0, .int .i64 0, .int .i64 0, .int .i64 0, .int .i64 0, .int .i64 0, .int .i64 0, .int .i64 0, .int .i64 0, .int .i64 0, .int .i64 0, .int .i64 0, .int .i64 0, .int .i64 0, .int .i64 0, .int .i64 0, .int .i64 0, .int .i64 0, .int .i64 0, .int .i64 0, .int .i64 0, .int .i64 0, .int .i64 0, .int .i64 0, .int .i64 0, .int .i64 0, .int .i64 0, .int .i64 0, .int .i64 0, .int .i64 0, .int .i64 0, .int .i64 0, .int .i64 0, .int .i64 0, .int .i64 0, .int .i64 0, .int .i64 0, .int .i64 0, .int .i64 0, .int .i64 0, .int .i64 0, .int .i64 0, .int .i64 0, .int .i64 0, .int .i64 0, .int .i64 0, .int .i64 0, .int .i64 0, .int .i64 0, .int .i64 0, .int .i64 0, .int .i64 0, .int .i64 0, .int .i64 0, .int .i64 0, .int .i64 0, .int .i64 0, .int .i64 0, .int .i64 0, .int .i64 0, .int .i64 0, .int .i64 0, .int .i64 0, .int .i64 0, .int .i64 0, .int .i64 0, .int .i64 0, .int .i64 0, .int .i64 0, .int .i64 0, .int .i64 0, .int .i64 0, .int .i64 0, .int .i64 0, .int .i64 0, .int .i64 0, .int .i64 0, .int .i64 0, .int .i64 0, .int .i64 0, .int .i64 0, .int .i64 0, .int .i64 0, .int .i64 0, .int .i64 0, .int .i64 0, .int .i64 0, .int .i64 0, .int .i64 0, .int .i64 0, .int .i64 0, .int .i64 0, .int .i64 0, .int .i64 0, .int .i64 0, .int .i64 0, .int .i64 0, .int .i64 0, .int .i64 0, .int .i64 0, .int .i64 0, .int .i64 0, .int .i64 0, .int .i64 0, .int .i64 0, .int .i64 0, .int .i64 0, .int .i64 0, .int .i64 0, .int .i64 0, .int .i64 0, .int .i64 0, .int .i64 0, .int .i64 0, .int .i64 0, .int .i64 0, .int .i64 0, .int .i64 0, .int .i64 0, .int .i64 0, .int .i64 0, .int .i64 0, .int .i64 0, .int .i64 0, .int .i64 0, .int .i64 0, .int .i64 0, .int .i64 0, .int .i64 0, .int .i64 0, .int .i64 0, .int .i64 0, .int .i64 0, .int .i64 0, .int .i64 0, .int .i64 0, .int .i64 0, .int .i64 0, .int .i64 0, .int .i64 0, .int .i64 0, .int .i64 0, .int .i64 0, .int .i64 0, .int .i64 0, .int .i64 0, .int .i64 0, .int .i64 0, .int .i64 0, .int .i64 0, .int .i64 0, .int .i64 0, .int .i64 0, .int .i64 0, .int .i64 0, .int .i64 0, .int .i64 0, .int .i64 0, .int .i64 0, .int .i64 0, .int .i64 0, .int .i64 0, .int .i64 0, .int .i64 0, .int .i64 0, .int .i64 0, .int .i64 0, .int .i64 0, .int .i64 0, .int .i64 0, .int .i64 0, .int .i64 0, .int .i64 0, .int .i64 0, .int .i64 0, .int .i64 0, .int .i64 0, .int .i64 0, .int .i64 0, .int .i64 0, .int .i64 0, .int .i64 0, .int .i64 0, .int .i64 0, .int .i64 0, .int .i64 0, .int .i64 0, .int .i64 0, .int .i64 0, .int .i64 0, .int .i64 0, .int .i64 0, .int .i64 0, .int .i64 0, .int .i64 0, .int .i64 0, .int .i64 0, .int .i64 0, .int .i64 0, .int .i64 0, .int .i64 0, .int .i64 0, .int .i64 0, .int .i64 0, .int .i64 0, .int .i64 0, .int .i64 0, .int .i64 0, .int .i64 0, .int .i64 0, .int .i64 0, .int .i64 0, .int .i64 0, .int .i64 0, .int .i64 0, .int .i64 0, .int .i64 0, .int .i64 0, .int .i64 0, .int .i64 0, .int .i64 0, .int .i64 0, .int .i64 0, .int .i64 0, .int .i64 0, .int .i64 0, .int .i64 0, .int .i64 0, .int .i64 0, .int .i64 0, .int .i64 0, .int .i64 0, .int .i64 0, .int .i64 0, .int .i64 0, .int .i64 0]
def a13 : V := .agg [.int .i64 0, .int .i64 1, .fsl 1 [[.int .i64 1], [.int .i64 2]], .fsl 1 [[.int .i64 1]]]
def a14 : V := .fsl 1 [[.int .i64 1], [.int .i64 0]]
def a15 : V := .fptr [.fsl 3 [[.str (ByteArray.mk #[97]), .nsl, .fsl 5 [[.int .i64 2, .int .i64 1, .int .i64 1, .int .i64 0, .nsl], [.int .i64 2, .int .i64 1, .int .i64 2, .int .i64 0, .nsl]]], [.str (ByteArray.mk #[98]), .nsl, .fsl 5 [[.int .i64 3, .int .i64 0, .int .i64 1, .int .i64 0, .nsl]]]]]
def a16 : V := .fsl 1 [[.fsl 1 [[.int .i64 1], [.int .i64 0]]]]
def a17 : V := .clo 82 [] [.fptr [.fsl 3 [[.str (ByteArray.mk #[97]), .nsl, .fsl 5 [[.int .i64 2, .int .i64 1, .int .i64 1, .int .i64 0, .nsl], [.int .i64 2, .int .i64 1, .int .i64 2, .int .i64 0, .nsl]]], [.str (ByteArray.mk #[98]), .nsl, .fsl 5 [[.int .i64 3, .int .i64 0, .int .i64 1, .int .i64 0, .nsl]]]]]]
def a18 : V := .tup [.agg [.int .i64 0, .int .i64 0], .agg [.int .i64 0, .int .i64 0], .bool false]
def a19 : V := .fsl 1 [[.int .i64 1], [.int .i64 2]]
def a20 : V := .tup [.int .i64 0, .bool true]
def a21 : V := .tup [.int .i64 0, .bool false]
def a22 : V := .fsl 1 [[.int .i64 2], [.int .i64 0]]
def a23 : V := .fsl 1 [[.fsl 1 [[.int .i64 2], [.int .i64 0]]]]
def a24 : V := .fsl 1 [[.int .i64 2], [.int .i64 1]]
def a25 : V := .fsl 1 [[.fsl 1 [[.int .i64 2], [.int .i64 1]]]]
def a26 : V := .tup [.agg [.int .i64 0, .int .i64 1], .bool true]
def a27 : V := .fsl 1 [[.int .i64 0], [.int .i64 1]]
def a28 : V := .fsl 1 [[.fsl 1 [[.int .i64 0], [.int .i64 1]]]]
def a29 : V := .fsl 1 [[.int .i64 1], [.int .i64 1]]
def a30 : V := .agg [.int .i64 1, .int .i64 0, .nsl, .nsl]
def a31 : V := .fsl 1 [[.int .i64 0], [.int .i64 0]]
def a32 : V := .fsl 1 [[.fsl 1 [[.int .i64 0], [.int .i64 1]]], [.fsl 1 [[.int .i64 0], [.int .i64 0]]]]
def k0 : Known := ⟨48, [.int .i64 2, .int .i64 1, .int .i64 8], .bool true⟩
theorem k0_ok : KnownOk E k0 := known_of (n := 100) (l := []) (by simp) (by kernel_rfl)
def k1 : Known := ⟨94, [.int .u8 97], .bool true⟩
theorem k1_ok : KnownOk E k1 := known_of (n := 100) (l := []) (by simp) (by kernel_rfl)
def k2 : Known := ⟨72, [.str (ByteArray.mk #[97])], .bool true⟩
theorem k2_ok : KnownOk E k2 := known_of (n := 100) (l := [k1]) (by simp only [List.forall_mem_cons]; exact ⟨k1_ok, by simp⟩) (by kernel_rfl)
def k3 : Known := ⟨96, [.fsl 3 [], a0], .int .i64 (-1)⟩
theorem k3_ok : KnownOk E k3 := known_of (n := 100) (l := []) (by simp) (by kernel_rfl)
def k4 : Known := ⟨73, [.fsl 3 [], a0], .bool false⟩
theorem k4_ok : KnownOk E k4 := known_of (n := 100) (l := [k3]) (by simp only [List.forall_mem_cons]; exact ⟨k3_ok, by simp⟩) (by kernel_rfl)
def k5 : Known := ⟨49, [a1, .int .i64 0], .int .i64 0⟩
theorem k5_ok : KnownOk E k5 := known_of (n := 100) (l := [k2, k4]) (by simp only [List.forall_mem_cons]; exact ⟨k2_ok, k4_ok, by simp⟩) (by kernel_rfl)
def k6 : Known := ⟨94, [.int .u8 98], .bool true⟩
theorem k6_ok : KnownOk E k6 := known_of (n := 100) (l := []) (by simp) (by kernel_rfl)
def k7 : Known := ⟨72, [.str (ByteArray.mk #[98])], .bool true⟩
theorem k7_ok : KnownOk E k7 := known_of (n := 100) (l := [k6]) (by simp only [List.forall_mem_cons]; exact ⟨k6_ok, by simp⟩) (by kernel_rfl)
def k8 : Known := ⟨74, [.agg [.str (ByteArray.mk #[97]), .nsl, .fsl 5 [[.int .i64 2, .int .i64 1, .int .i64 1, .int .i64 0, .nsl], [.int .i64 2, .int .i64 1, .int .i64 2, .int .i64 0, .nsl]]], .fptr [.str (ByteArray.mk #[98]), .nsl, .fsl 5 [[.int .i64 3, .int .i64 0, .int .i64 1, .int .i64 0, .nsl]]]], .bool false⟩
theorem k8_ok : KnownOk E k8 := known_of (n := 100) (l := []) (by simp) (by kernel_rfl)
def k9 : Known := ⟨96, [a2, a3], .int .i64 (-1)⟩
theorem k9_ok : KnownOk E k9 := known_of (n := 100) (l := [k8]) (by simp only [List.forall_mem_cons]; exact ⟨k8_ok, by simp⟩) (by kernel_rfl)
def k10 : Known := ⟨73, [a2, a3], .bool false⟩
theorem k10_ok : KnownOk E k10 := known_of (n := 100) (l := [k9]) (by simp only [List.forall_mem_cons]; exact ⟨k9_ok, by simp⟩) (by kernel_rfl)
def k11 : Known := ⟨49, [a1, .int .i64 1], .int .i64 0⟩
theorem k11_ok : KnownOk E k11 := known_of (n := 100) (l := [k7, k10]) (by simp only [List.forall_mem_cons]; exact ⟨k7_ok, k10_ok, by simp⟩) (by kernel_rfl)
def k12 : Known := ⟨50, [a1], .clo 77 [] [.fptr [.fsl 3 [[.str (ByteArray.mk #[97]), .nsl, .fsl 5 [[.int .i64 2, .int .i64 1, .int .i64 1, .int .i64 0, .nsl], [.int .i64 2, .int .i64 1, .int .i64 2, .int .i64 0, .nsl]]], [.str (ByteArray.mk #[98]), .nsl, .fsl 5 [[.int .i64 3, .int .i64 0, .int .i64 1, .int .i64 0, .nsl]]]]]]⟩
theorem k12_ok : KnownOk E k12 := known_of (n := 100) (l := []) (by simp) (by kernel_rfl)
def k13 : Known := ⟨48, [.int .i64 1, .int .i64 0, .int .i64 1], .bool true⟩
theorem k13_ok : KnownOk E k13 := known_of (n := 100) (l := []) (by simp) (by kernel_rfl)
def k14 : Known := ⟨48, [.int .i64 1, .int .i64 0, .int .i64 199], .bool true⟩
theorem k14_ok : KnownOk E k14 := known_of (n := 100) (l := []) (by simp) (by kernel_rfl)
def k15 : Known := ⟨78, [a1, .int .i64 0, a4], .bool true⟩
theorem k15_ok : KnownOk E k15 := known_of (n := 100) (l := [k13, k14]) (by simp only [List.forall_mem_cons]; exact ⟨k13_ok, k14_ok, by simp⟩) (by kernel_rfl)
def k16 : Known := ⟨48, [.int .i64 0, .int .i64 0, .int .i64 1099511627776], .bool true⟩
theorem k16_ok : KnownOk E k16 := known_of (n := 100) (l := []) (by simp) (by kernel_rfl)
def k17 : Known := ⟨51, [a1, a5, a4], .int .i64 0⟩
theorem k17_ok : KnownOk E k17 := known_of (n := 100) (l := [k15, k16]) (by simp only [List.forall_mem_cons]; exact ⟨k15_ok, k16_ok, by simp⟩) (by kernel_rfl)
def k18 : Known := ⟨48, [.int .i64 2, .int .i64 0, .int .i64 199], .bool true⟩
theorem k18_ok : KnownOk E k18 := known_of (n := 100) (l := []) (by simp) (by kernel_rfl)
def k19 : Known := ⟨78, [a1, .int .i64 0, a6], .bool true⟩
theorem k19_ok : KnownOk E k19 := known_of (n := 100) (l := [k13, k18]) (by simp only [List.forall_mem_cons]; exact ⟨k13_ok, k18_ok, by simp⟩) (by kernel_rfl)
def k20 : Known := ⟨51, [a1, a7, a6], .int .i64 0⟩
theorem k20_ok : KnownOk E k20 := known_of (n := 100) (l := [k19, k16]) (by simp only [List.forall_mem_cons]; exact ⟨k19_ok, k16_ok, by simp⟩) (by kernel_rfl)
def k21 : Known := ⟨48, [.int .i64 0, .int .i64 0, .int .i64 1], .bool true⟩
theorem k21_ok : KnownOk E k21 := known_of (n := 100) (l := []) (by simp) (by kernel_rfl)
def k22 : Known := ⟨78, [a1, .int .i64 1, a8], .bool true⟩
theorem k22_ok : KnownOk E k22 := known_of (n := 100) (l := [k21, k14]) (by simp only [List.forall_mem_cons]; exact ⟨k21_ok, k14_ok, by simp⟩) (by kernel_rfl)
def k23 : Known := ⟨51, [a1, a9, a8], .int .i64 0⟩
theorem k23_ok : KnownOk E k23 := known_of (n := 100) (l := [k22, k16]) (by simp only [List.forall_mem_cons]; exact ⟨k22_ok, k16_ok, by simp⟩) (by kernel_rfl)
def k24 : Known := ⟨91, [a4, .fptr [.int .i64 1], .fptr [.int .i64 1]], .bool true⟩
theorem k24_ok : KnownOk E k24 := known_of (n := 100) (l := []) (by simp) (by kernel_rfl)
def k25 : Known := ⟨35, [a10, a11], .int .i64 0⟩
theorem k25_ok : KnownOk E k25 := known_of (n := 100) (l := [k24]) (by simp only [List.forall_mem_cons]; exact ⟨k24_ok, by simp⟩) (by kernel_rfl)
def k26 : Known := ⟨26, [a10, a11], .bool true⟩
theorem k26_ok : KnownOk E k26 := known_of (n := 100) (l := [k25]) (by simp only [List.forall_mem_cons]; exact ⟨k25_ok, by simp⟩) (by kernel_rfl)
def k27 : Known := ⟨68, [a1, .int .i64 0, .int .i64 1, .int .i64 1], .bool true⟩
theorem k27_ok : KnownOk E k27 := known_of (n := 100) (l := [k26]) (by simp only [List.forall_mem_cons]; exact ⟨k26_ok, by simp⟩) (by kernel_rfl)
def k28 : Known := ⟨44, [a1], .tup [.fptr [.int .i64 0, .int .i64 0, .int .i64 0, .int .i64 0, .int .i64 0, .int .i64 1, .int .i64 1, .int .i64 1, .int .i64 0, .int .i64 2, .int .i64 0, .int .i64 0, .int .i64 0, .int .i64 0, .int .i64 0, .int .i64 0, .int .i64 0, .int .i64 0, .int .i64 0, .int .i64 0, .int .i64 0, .int .i64 0, .int .i64 0, .int .i64 0, .int .i64 0, .int .i64 0, .int .i64 0, .int .i64 0, .int .i64 0, .int .i64 0, .int .i64 0, .int .i64 0, .int .i64 0, .int .i64 0, .int .i64 0, .int .i64 0, .int .i64 0, .int .i64 0, .int .i64 0, .int .i64 0, .int .i64 0, .int .i64 0, .int .i64 0, .int .i64 0, .int .i64 0, .int .i64 0, .int .i64 0, .int .i64 0, .int .i64 0, .int .i64 0, .int .i64 0, .int .i64 0, .int .i64 0, .int .i64 0, .int .i64 0, .int .i64 0, .int .i64 0, .int .i64 0, .int .i64 0, .int .i64 0, .int .i64 0, .int .i64 0, .int .i64 0, .int .i64 0, .int .i64 0, .int .i64 0, .int .i64 0, .int .i64 0, .int .i64 0, .int .i64 0, .int .i64 0, .int .i64 0, .int .i64 0, .int .i64 0, .int .i64 0, .int .i64 0, .int .i64 0, .int .i64 0, .int .i64 0, .int .i64 0, .int .i64 0, .int .i64 0, .int .i64 0, .int .i64 0, .int .i64 0, .int .i64 0, .int .i64 0, .int .i64 0, .int .i64 0, .int .i64 0, .int .i64 0, .int .i64 0, .int .i64 0, .int .i64 0, .int .i64 0, .int .i64 0, .int .i64 0, .int .i64 0, .int .i64 0, .int .i64 0, .int .i64 0, .int .i64 0, .int .i64 0, .int .i64 0, .int .i64 0, .int .i64 0, .int .i64 0, .int .i64 0, .int .i64 0, .int .i64 0, .int .i64 0, .int .i64 0, .int .i64 0, .int .i64 0, .int .i64 0, .int .i64 0, .int .i64 0, .int .i64 0, .int .i64 0, .int .i64 0, .int .i64 0, .int .i64 0, .int .i64 0, .int .i64 0, .int .i64 0, .int .i64 0, .int .i64 0, .int .i64 0, .int .i64 0, .int .i64 0, .int .i64 0, .int .i64 0, .int .i64 0, .int .i64 0, .int .i64 0, .int .i64 0, .int .i64 0, .int .i64 0, .int .i64 0, .int .i64 0, .int .i64 0, .int .i64 0, .int .i64 0, .int .i64 0, .int .i64 0, .int .i64 0, .int .i64 0, .int .i64 0, .int .i64 0, .int .i64 0, .int .i64 0, .int .i64 0, .int .i64 0, .int .i64 0, .int .i64 0, .int .i64 0, .int .i64 0, .int .i64 0, .int .i64 0, .int .i64 0, .int .i64 0, .int .i64 0, .int .i64 0, .int .i64 0, .int .i64 0, .int .i64 0, .int .i64 0, .int .i64 0, .int .i64 0, .int .i64 0, .int .i64 0, .int .i64 0, .int .i64 0, .int .i64 0, .int .i64 0, .int .i64 0, .int .i64 0, .int .i64 0, .int .i64 0, .int .i64 0, .int .i64 0, .int .i64 0, .int .i64 0, .int .i64 0, .int .i64 0, .int .i64 0, .int .i64 0, .int .i64 0, .int .i64 0, .int .i64 0, .int .i64 0, .int .i64 0, .int .i64 0, .int .i64 0, .int .i64 0, .int .i64 0, .int .i64 0, .int .i64 0, .int .i64 0, .int .i64 0, .int .i64 0, .int .i64 0, .int .i64 0, .int .i64 0, .int .i64 0, .int .i64 0, .int .i64 0, .int .i64 0, .int .i64 0, .int .i64 0, .int .i64 0, .int .i64 0, .int .i64 0, .int .i64 0, .int .i64 0, .int .i64 0, .int .i64 0, .int .i64 0, .int .i64 0, .int .i64 0, .int .i64 0, .int .i64 0, .int .i64 0, .int .i64 0, .int .i64 0, .int .i64 0, .int .i64 0, .int .i64 0, .int .i64 0, .int .i64 0, .int .i64 0, .int .i64 0, .int .i64 0, .int .i64 0, .int .i64 0, .int .i64 0, .int .i64 0, .int .i64 0, .int .i64 0, .int .i64 0, .int .i64 0, .int .i64 0, .int .i64 0, .int .i64 0, .int .i64 0, .int .i64 0, .int .i64 0, .int .i64 0, .int .i64 0, .int .i64 0, .int .i64 0, .int .i64 0, .int .i64 0, .int .i64 0, .int .i64 0, .int .i64 0, .int .i64 0, .int .i64 0, .int .i64 0, .int .i64 0, .int .i64 0, .int .i64 0, .int .i64 0, .int .i64 0, .int .i64 0, .int .i64 0, .int .i64 0, .int .i64 0, .int .i64 0, .int .i64 0, .int .i64 0, .int .i64 0, .int .i64 0, .int .i64 0, .int .i64 0, .int .i64 0, .int .i64 0, .int .i64 0, .int .i64 0, .int .i64 0, .int .i64 0, .int .i64 0, .int .i64 0, .int .i64 0, .int .i64 0, .int .i64 0, .int .i64 0, .int .i64 0, .int .i64 0, .int .i64 0, .int .i64 0, .int .i64 0, .int .i64 0, .int .i64 0, .int .i64 0, .int .i64 0, .int .i64 0, .int .i64 0, .int .i64 0, .int .i64 0, .int .i64 0, .int .i64 0, .int .i64 0, .int .i64 0, .int .i64 0, .int .i64 0, .int .i64 0, .int .i64 0, .int .i64 0, .int .i64 0, .int .i64 0, .int .i64 0, .int .i64 0, .int .i64 0, .int .i64 0, .int .i64 0, .int .i64 0, .int .i64 0, .int .i64 0, .int .i64 0, .int .i64 0, .int .i64 0, .int .i64 0, .int .i64 0, .int .i64 0, .int .i64 0, .int .i64 0, .int .i64 0, .int .i64 0, .int .i64 0, .int .i64 0, .int .i64 0, .int .i64 0, .int .i64 0, .int .i64 0, .int .i64 0, .int .i64 0, .int .i64 0, .int .i64 0, .int .i64 0, .int .i64 0, .int .i64 0, .int .i64 0, .int .i64 0, .int .i64 0, .int .i64 0, .int .i64 0, .int .i64 0, .int .i64 0, .int .i64 0, .int .i64 0, .int .i64 0, .int .i64 0, .int .i64 0, .int .i64 0, .int .i64 0, .int .i64 0, .int .i64 0, .int .i64 0, .int .i64 0, .int .i64 0, .int .i64 0, .int .i64 0, .int .i64 0, .int .i64 0, .int .i64 0, .int .i64 0, .int .i64 0, .int .i64 0, .int .i64 0, .int .i64 0, .int .i64 0, .int .i64 0, .int .i64 0, .int .i64 0, .int .i64 0, .int .i64 0, .int .i64 0, .int .i64 0, .int .i64 0, .int .i64 0, .int .i64 0, .int .i64 0, .int .i64 0, .int .i64 0, .int .i64 0, .int .i64 0, .int .i64 0, .int .i64 0, .int .i64 0, .int .i64 0, .int .i64 0, .int .i64 0, .int .i64 0, .int .i64 0, .int .i64 0, .int .i64 0, .int .i64 0, .int .i64 0, .int .i64 0, .int .i64 0, .int .i64 0, .int .i64 0, .int .i64 0, .int .i64 0, .int .i64 0, .int .i64 0, .int .i64 0, .int .i64 0, .int .i64 0, .int .i64 0, .int .i64 0, .int .i64 0, .int .i64 0, .int .i64 0, .int .i64 0, .int .i64 0, .int .i64 0, .int .i64 0, .int .i64 0, .int .i64 0, .int .i64 0, .int .i64 0, .int .i64 0, .int .i64 0, .int .i64 0, .int .i64 0, .int .i64 0, .int .i64 0, .int .i64 0, .int .i64 0, .int .i64 0, .int .i64 0, .int .i64 0, .int .i64 0, .int .i64 0, .int .i64 0, .int .i64 0, .int .i64 0, .int .i64 0, .int .i64 0, .int .i64 0, .int .i64 0, .int .i64 0, .int .i64 0, .int .i64 0, .int .i64 0, .int .i64 0, .int .i64 0, .int .i64 0, .int .i64 0, .int .i64 0, .int .i64 0, .int .i64 0, .int .i64 0, .int .i64 0, .int .i64 0, .int .i64 0, .int .i64 0, .int .i64 0, .int .i64 0, .int .i64 0, .int .i64 0, .int .i64 0, .int .i64 0, .int .i64 0, .int .i64 0, .int .i64 0, .int .i64 0, .int .i64 0, .int .i64 0, .int .i64 0, .int .i64 0, .int .i64 0, .int .i64 0, .int .i64 0, .int .i64 0, .int .i64 0, .int .i64 0, .int .i64 0, .int .i64 0, .int .i64 0, .int .i64 0, .int .i64 0, .int .i64 0, .int .i64 0, .int .i64 0, .int .i64 0, .int .i64 0, .int .i64 0, .int .i64 0, .int .i64 0, .int .i64 0, .int .i64 0, .int .i64 0, .int .i64 0, .int .i64 0, .int .i64 0, .int .i64 0, .int .i64 0, .int .i64 0, .int .i64 0, .int .i64 0, .int .i64 0, .int .i64 0, .int .i64 0, .int .i64 0, .int .i64 0, .int .i64 0, .int .i64 0, .int .i64 0, .int .i64 0, .int .i64 0, .int .i64 0, .int .i64 0, .int .i64 0, .int .i64 0, .int .i64 0, .int .i64 0, .int .i64 0, .int .i64 0, .int .i64 0, .int .i64 0, .int .i64 0, .int .i64 0, .int .i64 0, .int .i64 0, .int .i64 0, .int .i64 0, .int .i64 0, .int .i64 0, .int .i64 0, .int .i64 0, .int .i64 0, .int .i64 0, .int .i64 0, .int .i64 0, .int .i64 0, .int .i64 0, .int .i64 0, .int .i64 0, .int .i64 0, .int .i64 0, .int .i64 0, .int .i64 0, .int .i64 0, .int .i64 0, .int .i64 0, .int .i64 0, .int .i64 0, .int .i64 0, .int .i64 0, .int .i64 0, .int .i64 0, .int .i64 0, .int .i64 0, .int .i64 0, .int .i64 0, .int .i64 0, .int .i64 0, .int .i64 0, .int .i64 0, .int .i64 0, .int .i64 0, .int .i64 0, .int .i64 0, .int .i64 0, .int .i64 0, .int .i64 0, .int .i64 0, .int .i64 0, .int .i64 0, .int .i64 0, .int .i64 0, .int .i64 0, .int .i64 0, .int .i64 0, .int .i64 0, .int .i64 0, .int .i64 0, .int .i64 0, .int .i64 0, .int .i64 0, .int .i64 0, .int .i64 0, .int .i64 0, .int .i64 0, .int .i64 0, .int .i64 0, .int .i64 0, .int .i64 0, .int .i64 0, .int .i64 0, .int .i64 0, .int .i64 0, .int .i64 0, .int .i64 0, .int .i64 0, .int .i64 0, .int .i64 0, .int .i64 0, .int .i64 0, .int .i64 0, .int .i64 0, .int .i64 0, .int .i64 0, .int .i64 0, .int .i64 0, .int .i64 0, .int .i64 0, .int .i64 0, .int .i64 0, .int .i64 0, .int .i64 0, .int .i64 0, .int .i64 0, .int .i64 0, .int .i64 0, .int .i64 0, .int .i64 0, .int .i64 0, .int .i64 0, .int .i64 0, .int .i64 0, .int .i64 0, .int .i64 0, .int .i64 0, .int .i64 0, .int .i64 0, .int .i64 0, .int .i64 0, .int .i64 0, .int .i64 0, .int .i64 0, .int .i64 0, .int .i64 0, .int .i64 0, .int .i64 0, .int .i64 0, .int .i64 0, .int .i64 0, .int .i64 0, .int .i64 0, .int .i64 0, .int .i64 0, .int .i64 0, .int .i64 0, .int .i64 0, .int .i64 0, .int .i64 0, .int .i64 0, .int .i64 0, .int .i64 0, .int .i64 0, .int .i64 0, .int .i64 0, .int .i64 0, .int .i64 0, .int .i64 0, .int .i64 0, .int .i64 0, .int .i64 0, .int .i64 0, .int .i64 0, .int .i64 0, .int .i64 0, .int .i64 0, .int .i64 0, .int .i64 0, .int .i64 0, .int .i64 0, .int .i64 0, .int .i64 0, .int .i64 0, .int .i64 0, .int .i64 0, .int .i64 0, .int .i64 0, .int .i64 0, .int .i64 0, .int .i64 0, .int .i64 0, .int .i64 0, .int .i64 0, .int .i64 0, .int .i64 0, .int .i64 0, .int .i64 0, .int .i64 0, .int .i64 0, .int .i64 0, .int .i64 0, .int .i64 0, .int .i64 0, .int .i64 0, .int .i64 0, .int .i64 0, .int .i64 0, .int .i64 0, .int .i64 0, .int .i64 0, .int .i64 0, .int .i64 0, .int .i64 0, .int .i64 0, .int .i64 0, .int .i64 0, .int .i64 0, .int .i64 0, .int .i64 0, .int .i64 0, .int .i64 0, .int .i64 0, .int .i64 0, .int .i64 0, .int .i64 0, .int .i64 0, .int .i64 0, .int .i64 0, .int .i64 0, .int .i64 0, .int .i64 0, .int .i64 0, .int .i64 0, .int .i64 0, .int .i64 0, .int .i64 0, .int .i64 0, .int .i64 0, .int .i64 0, .int .i64 0, .int .i64 0, .int .i64 0, .int .i64 0, .int .i64 0, .int .i64 0, .int .i64 0, .int .i64 0, .int .i64 0, .int .i64 0, .int .i64 0, .int .i64 0, .int .i64 0, .int .i64 0, .int .i64 0, .int .i64 0, .int .i64 0, .int .i64 0, .int .i64 0, .int .i64 0, .int .i64 0, .int .i64 0, .int .i64 0, .int .i64 0, .int .i64 0, .int .i64 0, .int .i64 0, .int .i64 0, .int .i64 0, .int .i64 0, .int .i64 0, .int .i64 0, .int .i64 0, .int .i64 0, .int .i64 0, .int .i64 0, .int .i64 0, .int .i64 0, .int .i64 0, .int .i64 0, .int .i64 0, .int .i64 0, .int .i64 0, .int .i64 0, .int .i64 0, .int .i64 0, .int .i64 0, .int .i64 0, .int .i64 0, .int .i64 0, .int .i64 0, .int .i64 0, .int .i64 0, .int .i64 0, .int .i64 0, .int .i64 0, .int .i64 0, .int .i64 0, .int .i64 0, .int .i64 0, .int .i64 0, .int .i64 0, .int .i64 0, .int .i64 0, .int .i64 0, .int .i64 0, .int .i64 0, .int .i64 0, .int .i64 0, .int .i64 0], .agg [.int .i64 0, .int .i64 0], .int .i64 0]⟩
theorem k28_ok : KnownOk E k28 := known_of (n := 100) (l := [k12, k27]) (by simp only [List.forall_mem_cons]; exact ⟨k12_ok, k27_ok, by simp⟩) (by kernel_rfl)
def k29 : Known := ⟨81, [a1, a12, a5], .fsl 2 [[.int .i64 0, .int .i64 2], [.int .i64 1, .int .i64 1]]⟩
theorem k29_ok : KnownOk E k29 := known_of (n := 100) (l := []) (by simp) (by kernel_rfl)
def k30 : Known := ⟨81, [a1, a12, a9], .nsl⟩
theorem k30_ok : KnownOk E k30 := known_of (n := 100) (l := []) (by simp) (by kernel_rfl)
def k31 : Known := ⟨81, [a1, a12, a7], .nsl⟩
theorem k31_ok : KnownOk E k31 := known_of (n := 100) (l := []) (by simp) (by kernel_rfl)
def k32 : Known := ⟨52, [a1, a12], .tup [.agg [.int .i64 0, .int .i64 0], .bool false]⟩
theorem k32_ok : KnownOk E k32 := known_of (n := 100) (l := [k12, k29, k30, k31]) (by simp only [List.forall_mem_cons]; exact ⟨k12_ok, k29_ok, k30_ok, k31_ok, by simp⟩) (by kernel_rfl)
def k33 : Known := ⟨28, [a1], .tup [.agg [.int .i64 0, .int .i64 0], .int .i64 0]⟩
theorem k33_ok : KnownOk E k33 := known_of (n := 100) (l := [k0, k5, k11, k12, k17, k20, k23, k28, k32]) (by simp only [List.forall_mem_cons]; exact ⟨k0_ok, k5_ok, k11_ok, k12_ok, k17_ok, k20_ok, k23_ok, k28_ok, k32_ok, by simp⟩) (by kernel_rfl)
def k34 : Known := ⟨8, [a1], .bool true⟩
theorem k34_ok : KnownOk E k34 := known_of (n := 100) (l := [k33]) (by simp only [List.forall_mem_cons]; exact ⟨k33_ok, by simp⟩) (by kernel_rfl)
def k35 : Known := ⟨34, [a1, .int .i64 0, .int .i64 1], .int .i64 0⟩
theorem k35_ok : KnownOk E k35 := known_of (n := 100) (l := [k34]) (by simp only [List.forall_mem_cons]; exact ⟨k34_ok, by simp⟩) (by kernel_rfl)
def k36 : Known := ⟨31, [a1, .int .i64 0, .int .i64 1], a13⟩
theorem k36_ok : KnownOk E k36 := known_of (n := 100) (l := []) (by simp) (by kernel_rfl)
def k37 : Known := ⟨82, [a14, a15], .bool false⟩
theorem k37_ok : KnownOk E k37 := known_of (n := 100) (l := []) (by simp) (by kernel_rfl)
def k38 : Known := ⟨85, [a16, a17], .int .i64 (-1)⟩
theorem k38_ok : KnownOk E k38 := known_of (n := 100) (l := [k37]) (by simp only [List.forall_mem_cons]; exact ⟨k37_ok, by simp⟩) (by kernel_rfl)
def k39 : Known := ⟨58, [a16, a17], .bool false⟩
theorem k39_ok : KnownOk E k39 := known_of (n := 100) (l := [k38]) (by simp only [List.forall_mem_cons]; exact ⟨k38_ok, by simp⟩) (by kernel_rfl)
def k40 : Known := ⟨53, [a1, a16], .bool true⟩
theorem k40_ok : KnownOk E k40 := known_of (n := 100) (l := [k34, k39]) (by simp only [List.forall_mem_cons]; exact ⟨k34_ok, k39_ok, by simp⟩) (by kernel_rfl)
def k41 : Known := ⟨54, [a1, a14], .bool true⟩
theorem k41_ok : KnownOk E k41 := known_of (n := 100) (l := []) (by simp) (by kernel_rfl)
def k42 : Known := ⟨83, [a1, a14], a18⟩
theorem k42_ok : KnownOk E k42 := known_of (n := 100) (l := []) (by simp) (by kernel_rfl)
def k43 : Known := ⟨105, [.int .i64 2], .bool false⟩
theorem k43_ok : KnownOk E k43 := known_of (n := 100) (l := []) (by simp) (by kernel_rfl)
def k44 : Known := ⟨100, [.int .i64 2, .int .i64 1], .bool false⟩
theorem k44_ok : KnownOk E k44 := known_of (n := 100) (l := [k43]) (by simp only [List.forall_mem_cons]; exact ⟨k43_ok, by simp⟩) (by kernel_rfl)
def k45 : Known := ⟨105, [.int .i64 1], .bool false⟩
theorem k45_ok : KnownOk E k45 := known_of (n := 100) (l := []) (by simp) (by kernel_rfl)
def k46 : Known := ⟨100, [.int .i64 1, .int .i64 1], .bool false⟩
theorem k46_ok : KnownOk E k46 := known_of (n := 100) (l := [k45]) (by simp only [List.forall_mem_cons]; exact ⟨k45_ok, by simp⟩) (by kernel_rfl)
def k47 : Known := ⟨84, [a19, .int .i64 1], a20⟩
theorem k47_ok : KnownOk E k47 := known_of (n := 100) (l := [k44, k46]) (by simp only [List.forall_mem_cons]; exact ⟨k44_ok, k46_ok, by simp⟩) (by kernel_rfl)
def k48 : Known := ⟨57, [a19, .int .i64 1], .int .i64 1⟩
theorem k48_ok : KnownOk E k48 := known_of (n := 100) (l := [k47]) (by simp only [List.forall_mem_cons]; exact ⟨k47_ok, by simp⟩) (by kernel_rfl)
def k49 : Known := ⟨100, [.int .i64 1, .int .i64 0], .bool false⟩
theorem k49_ok : KnownOk E k49 := known_of (n := 100) (l := [k45]) (by simp only [List.forall_mem_cons]; exact ⟨k45_ok, by simp⟩) (by kernel_rfl)
def k50 : Known := ⟨101, [.int .i64 1], .bool false⟩
theorem k50_ok : KnownOk E k50 := known_of (n := 100) (l := []) (by simp) (by kernel_rfl)
def k51 : Known := ⟨84, [.fsl 1 [[.int .i64 1]], .int .i64 0], a21⟩
theorem k51_ok : KnownOk E k51 := known_of (n := 100) (l := [k49, k50]) (by simp only [List.forall_mem_cons]; exact ⟨k49_ok, k50_ok, by simp⟩) (by kernel_rfl)
def k52 : Known := ⟨57, [.fsl 1 [[.int .i64 1]], .int .i64 0], .int .i64 0⟩
theorem k52_ok : KnownOk E k52 := known_of (n := 100) (l := [k51]) (by simp only [List.forall_mem_cons]; exact ⟨k51_ok, by simp⟩) (by kernel_rfl)
def k53 : Known := ⟨32, [a13, a14], .int .i64 1⟩
theorem k53_ok : KnownOk E k53 := known_of (n := 100) (l := [k48, k52]) (by simp only [List.forall_mem_cons]; exact ⟨k48_ok, k52_ok, by simp⟩) (by kernel_rfl)
def k54 : Known := ⟨82, [a22, a15], .bool false⟩
theorem k54_ok : KnownOk E k54 := known_of (n := 100) (l := []) (by simp) (by kernel_rfl)
def k55 : Known := ⟨85, [a23, a17], .int .i64 (-1)⟩
theorem k55_ok : KnownOk E k55 := known_of (n := 100) (l := [k54]) (by simp only [List.forall_mem_cons]; exact ⟨k54_ok, by simp⟩) (by kernel_rfl)
def k56 : Known := ⟨58, [a23, a17], .bool false⟩
theorem k56_ok : KnownOk E k56 := known_of (n := 100) (l := [k55]) (by simp only [List.forall_mem_cons]; exact ⟨k55_ok, by simp⟩) (by kernel_rfl)
def k57 : Known := ⟨53, [a1, a23], .bool true⟩
theorem k57_ok : KnownOk E k57 := known_of (n := 100) (l := [k34, k56]) (by simp only [List.forall_mem_cons]; exact ⟨k34_ok, k56_ok, by simp⟩) (by kernel_rfl)
def k58 : Known := ⟨54, [a1, a22], .bool true⟩
theorem k58_ok : KnownOk E k58 := known_of (n := 100) (l := []) (by simp) (by kernel_rfl)
def k59 : Known := ⟨83, [a1, a22], a18⟩
theorem k59_ok : KnownOk E k59 := known_of (n := 100) (l := []) (by simp) (by kernel_rfl)
def k60 : Known := ⟨100, [.int .i64 2, .int .i64 2], .bool false⟩
theorem k60_ok : KnownOk E k60 := known_of (n := 100) (l := [k43]) (by simp only [List.forall_mem_cons]; exact ⟨k43_ok, by simp⟩) (by kernel_rfl)
def k61 : Known := ⟨100, [.int .i64 1, .int .i64 2], .bool true⟩
theorem k61_ok : KnownOk E k61 := known_of (n := 100) (l := [k45]) (by simp only [List.forall_mem_cons]; exact ⟨k45_ok, by simp⟩) (by kernel_rfl)
def k62 : Known := ⟨84, [a19, .int .i64 2], .tup [.int .i64 1, .bool true]⟩
theorem k62_ok : KnownOk E k62 := known_of (n := 100) (l := [k60, k61]) (by simp only [List.forall_mem_cons]; exact ⟨k60_ok, k61_ok, by simp⟩) (by kernel_rfl)
def k63 : Known := ⟨57, [a19, .int .i64 2], .int .i64 2⟩
theorem k63_ok : KnownOk E k63 := known_of (n := 100) (l := [k62]) (by simp only [List.forall_mem_cons]; exact ⟨k62_ok, by simp⟩) (by kernel_rfl)
def k64 : Known := ⟨32, [a13, a22], .int .i64 2⟩
theorem k64_ok : KnownOk E k64 := known_of (n := 100) (l := [k63, k52]) (by simp only [List.forall_mem_cons]; exact ⟨k63_ok, k52_ok, by simp⟩) (by kernel_rfl)
def k65 : Known := ⟨23, [a1, .int .i64 0, .int .i64 1], .tup [.int .i64 2, .fsl 1 [[.int .i64 2], [.int .i64 0]], .int .i64 0]⟩
theorem k65_ok : KnownOk E k65 := known_of (n := 100) (l := [k35, k36, k40, k41, k42, k53, k57, k58, k59, k64]) (by simp only [List.forall_mem_cons]; exact ⟨k35_ok, k36_ok, k40_ok, k41_ok, k42_ok, k53_ok, k57_ok, k58_ok, k59_ok, k64_ok, by simp⟩) (by kernel_rfl)
def k66 : Known := ⟨82, [a24, a15], .bool false⟩
theorem k66_ok : KnownOk E k66 := known_of (n := 100) (l := []) (by simp) (by kernel_rfl)
def k67 : Known := ⟨85, [a25, a17], .int .i64 (-1)⟩
theorem k67_ok : KnownOk E k67 := known_of (n := 100) (l := [k66]) (by simp only [List.forall_mem_cons]; exact ⟨k66_ok, by simp⟩) (by kernel_rfl)
def k68 : Known := ⟨58, [a25, a17], .bool false⟩
theorem k68_ok : KnownOk E k68 := known_of (n := 100) (l := [k67]) (by simp only [List.forall_mem_cons]; exact ⟨k67_ok, by simp⟩) (by kernel_rfl)
def k69 : Known := ⟨53, [a1, a25], .bool true⟩
theorem k69_ok : KnownOk E k69 := known_of (n := 100) (l := [k34, k68]) (by simp only [List.forall_mem_cons]; exact ⟨k34_ok, k68_ok, by simp⟩) (by kernel_rfl)
def k70 : Known := ⟨54, [a1, a24], .bool true⟩
theorem k70_ok : KnownOk E k70 := known_of (n := 100) (l := []) (by simp) (by kernel_rfl)
def k71 : Known := ⟨104, [a1, .int .i64 2, .int .i64 1], a26⟩
theorem k71_ok : KnownOk E k71 := known_of (n := 100) (l := [k34, k12]) (by simp only [List.forall_mem_cons]; exact ⟨k34_ok, k12_ok, by simp⟩) (by kernel_rfl)
def k72 : Known := ⟨99, [a1, .int .i64 1], a26⟩
theorem k72_ok : KnownOk E k72 := known_of (n := 100) (l := [k71]) (by simp only [List.forall_mem_cons]; exact ⟨k71_ok, by simp⟩) (by kernel_rfl)
def k73 : Known := ⟨83, [a1, a24], a18⟩
theorem k73_ok : KnownOk E k73 := known_of (n := 100) (l := [k72]) (by simp only [List.forall_mem_cons]; exact ⟨k72_ok, by simp⟩) (by kernel_rfl)
def k74 : Known := ⟨84, [.fsl 1 [[.int .i64 1]], .int .i64 1], a20⟩
theorem k74_ok : KnownOk E k74 := known_of (n := 100) (l := [k46]) (by simp only [List.forall_mem_cons]; exact ⟨k46_ok, by simp⟩) (by kernel_rfl)
def k75 : Known := ⟨57, [.fsl 1 [[.int .i64 1]], .int .i64 1], .int .i64 1⟩
theorem k75_ok : KnownOk E k75 := known_of (n := 100) (l := [k74]) (by simp only [List.forall_mem_cons]; exact ⟨k74_ok, by simp⟩) (by kernel_rfl)
def k76 : Known := ⟨32, [a13, a24], .int .i64 1⟩
theorem k76_ok : KnownOk E k76 := known_of (n := 100) (l := [k63, k75]) (by simp only [List.forall_mem_cons]; exact ⟨k63_ok, k75_ok, by simp⟩) (by kernel_rfl)
def k77 : Known := ⟨46, [a13, a1, a24, .int .i64 1], a24⟩
theorem k77_ok : KnownOk E k77 := known_of (n := 100) (l := [k69, k70, k73, k76]) (by simp only [List.forall_mem_cons]; exact ⟨k69_ok, k70_ok, k73_ok, k76_ok, by simp⟩) (by kernel_rfl)
def k78 : Known := ⟨47, [a13, a1, a14, .int .i64 1], .tup [.fsl 1 [[.int .i64 1], [.int .i64 0]], .bool true]⟩
theorem k78_ok : KnownOk E k78 := known_of (n := 100) (l := [k40, k41, k42, k53]) (by simp only [List.forall_mem_cons]; exact ⟨k40_ok, k41_ok, k42_ok, k53_ok, by simp⟩) (by kernel_rfl)
def k79 : Known := ⟨47, [a13, a1, a22, .int .i64 1], .tup [.fsl 1 [[.int .i64 2], [.int .i64 1]], .bool true]⟩
theorem k79_ok : KnownOk E k79 := known_of (n := 100) (l := [k57, k58, k59, k64, k63, k69, k70, k73, k76]) (by simp only [List.forall_mem_cons]; exact ⟨k57_ok, k58_ok, k59_ok, k64_ok, k63_ok, k69_ok, k70_ok, k73_ok, k76_ok, by simp⟩) (by kernel_rfl)
def k80 : Known := ⟨82, [a27, a15], .bool false⟩
theorem k80_ok : KnownOk E k80 := known_of (n := 100) (l := []) (by simp) (by kernel_rfl)
def k81 : Known := ⟨85, [a28, a17], .int .i64 (-1)⟩
theorem k81_ok : KnownOk E k81 := known_of (n := 100) (l := [k80]) (by simp only [List.forall_mem_cons]; exact ⟨k80_ok, by simp⟩) (by kernel_rfl)
def k82 : Known := ⟨58, [a28, a17], .bool false⟩
theorem k82_ok : KnownOk E k82 := known_of (n := 100) (l := [k81]) (by simp only [List.forall_mem_cons]; exact ⟨k81_ok, by simp⟩) (by kernel_rfl)
def k83 : Known := ⟨53, [a1, a28], .bool true⟩
theorem k83_ok : KnownOk E k83 := known_of (n := 100) (l := [k34, k82]) (by simp only [List.forall_mem_cons]; exact ⟨k34_ok, k82_ok, by simp⟩) (by kernel_rfl)
def k84 : Known := ⟨54, [a1, a27], .bool true⟩
theorem k84_ok : KnownOk E k84 := known_of (n := 100) (l := []) (by simp) (by kernel_rfl)
def k85 : Known := ⟨83, [a1, a27], .tup [.agg [.int .i64 0, .int .i64 1], .agg [.int .i64 1, .int .i64 1], .bool true]⟩
theorem k85_ok : KnownOk E k85 := known_of (n := 100) (l := [k72]) (by simp only [List.forall_mem_cons]; exact ⟨k72_ok, by simp⟩) (by kernel_rfl)
def k86 : Known := ⟨83, [a1, a29], a18⟩
theorem k86_ok : KnownOk E k86 := known_of (n := 100) (l := [k72]) (by simp only [List.forall_mem_cons]; exact ⟨k72_ok, by simp⟩) (by kernel_rfl)
def k87 : Known := ⟨32, [a13, a29], .int .i64 0⟩
theorem k87_ok : KnownOk E k87 := known_of (n := 100) (l := [k48, k75]) (by simp only [List.forall_mem_cons]; exact ⟨k48_ok, k75_ok, by simp⟩) (by kernel_rfl)
def k88 : Known := ⟨47, [a13, a1, a27, .int .i64 1], .tup [.fsl 1 [[.int .i64 1], [.int .i64 1]], .bool true]⟩
theorem k88_ok : KnownOk E k88 := known_of (n := 100) (l := [k83, k84, k85, k86, k87]) (by simp only [List.forall_mem_cons]; exact ⟨k83_ok, k84_ok, k85_ok, k86_ok, k87_ok, by simp⟩) (by kernel_rfl)
def k89 : Known := ⟨24, [a1, .int .i64 0, .int .i64 1, .int .i64 1], .tup [.agg [.bool false, .fsl 1 [[.int .i64 0], [.int .i64 0]], .fsl 1 [[.int .i64 2], [.int .i64 1]], .fsl 1 [[.fsl 1 [[.fsl 1 [[.int .i64 1], [.int .i64 0]]], [.fsl 1 [[.int .i64 2], [.int .i64 1]]]]], [.fsl 1 [[.fsl 1 [[.int .i64 1], [.int .i64 1]]]]]]], .int .i64 0]⟩
theorem k89_ok : KnownOk E k89 := known_of (n := 100) (l := [k35, k36, k77, k78, k79, k88]) (by simp only [List.forall_mem_cons]; exact ⟨k35_ok, k36_ok, k77_ok, k78_ok, k79_ok, k88_ok, by simp⟩) (by kernel_rfl)
def k90 : Known := ⟨56, [a1, a24], .bool true⟩
theorem k90_ok : KnownOk E k90 := known_of (n := 100) (l := [k73]) (by simp only [List.forall_mem_cons]; exact ⟨k73_ok, by simp⟩) (by kernel_rfl)
def k91 : Known := ⟨29, [a1, a25, .nsl], .int .i64 0⟩
theorem k91_ok : KnownOk E k91 := known_of (n := 100) (l := [k69, k70, k90]) (by simp only [List.forall_mem_cons]; exact ⟨k69_ok, k70_ok, k90_ok, by simp⟩) (by kernel_rfl)
def k92 : Known := ⟨30, [a1, a24], .tup [.fsl 2 [[.int .i64 0, .int .i64 2], [.int .i64 1, .int .i64 1]], .int .i64 0]⟩
theorem k92_ok : KnownOk E k92 := known_of (n := 100) (l := [k91]) (by simp only [List.forall_mem_cons]; exact ⟨k91_ok, by simp⟩) (by kernel_rfl)
def k93 : Known := ⟨31, [a1, .int .i64 1, .int .i64 0], a30⟩
theorem k93_ok : KnownOk E k93 := known_of (n := 100) (l := []) (by simp) (by kernel_rfl)
def k94 : Known := ⟨84, [.nsl, .int .i64 1], a21⟩
theorem k94_ok : KnownOk E k94 := known_of (n := 100) (l := []) (by simp) (by kernel_rfl)
def k95 : Known := ⟨57, [.nsl, .int .i64 1], .int .i64 0⟩
theorem k95_ok : KnownOk E k95 := known_of (n := 100) (l := [k94]) (by simp only [List.forall_mem_cons]; exact ⟨k94_ok, by simp⟩) (by kernel_rfl)
def k96 : Known := ⟨84, [.nsl, .int .i64 2], a21⟩
theorem k96_ok : KnownOk E k96 := known_of (n := 100) (l := []) (by simp) (by kernel_rfl)
def k97 : Known := ⟨57, [.nsl, .int .i64 2], .int .i64 0⟩
theorem k97_ok : KnownOk E k97 := known_of (n := 100) (l := [k96]) (by simp only [List.forall_mem_cons]; exact ⟨k96_ok, by simp⟩) (by kernel_rfl)
def k98 : Known := ⟨32, [a30, a24], .int .i64 0⟩
theorem k98_ok : KnownOk E k98 := known_of (n := 100) (l := [k95, k97]) (by simp only [List.forall_mem_cons]; exact ⟨k95_ok, k97_ok, by simp⟩) (by kernel_rfl)
def k99 : Known := ⟨10, [a1, a24], .tup [.fsl 1 [[.fsl 1 [[.int .i64 0], [.int .i64 1]]], [.fsl 1 [[.int .i64 0], [.int .i64 0]]]], .int .i64 0]⟩
theorem k99_ok : KnownOk E k99 := known_of (n := 100) (l := [k92, k36, k76, k93, k98]) (by simp only [List.forall_mem_cons]; exact ⟨k92_ok, k36_ok, k76_ok, k93_ok, k98_ok, by simp⟩) (by kernel_rfl)
def k100 : Known := ⟨25, [a22, a22], .bool true⟩
theorem k100_ok : KnownOk E k100 := known_of (n := 100) (l := []) (by simp) (by kernel_rfl)
def k101 : Known := ⟨25, [a24, a24], .bool true⟩
theorem k101_ok : KnownOk E k101 := known_of (n := 100) (l := []) (by simp) (by kernel_rfl)
def k102 : Known := ⟨42, [a27, a27], .bool true⟩
theorem k102_ok : KnownOk E k102 := known_of (n := 100) (l := []) (by simp) (by kernel_rfl)
def k103 : Known := ⟨42, [a31, a31], .bool true⟩
theorem k103_ok : KnownOk E k103 := known_of (n := 100) (l := []) (by simp) (by kernel_rfl)
def k104 : Known := ⟨19, [a32, a32], .bool true⟩
theorem k104_ok : KnownOk E k104 := known_of (n := 100) (l := [k102, k103]) (by simp only [List.forall_mem_cons]; exact ⟨k102_ok, k103_ok, by simp⟩) (by kernel_rfl)
theorem awake_runs : ∃ n H1, run E n (.fn 6) [] [] = some (.bool true, H1) := known_true (n := 100) (l := [k65, k89, k99, k100, k101, k104]) (by simp only [List.forall_mem_cons]; exact ⟨k65_ok, k89_ok, k99_ok, k100_ok, k101_ok, k104_ok, by simp⟩) (by kernel_rfl)
end Go.Proofs.Ytnfakljmdnbipaa
