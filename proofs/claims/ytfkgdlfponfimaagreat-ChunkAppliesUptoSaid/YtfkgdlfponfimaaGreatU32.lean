import Derived.Test.YtfkgdlfponfimaaGreatProg
import Derived.Test.YtfkgdlfponfimaaGreatU21
import Derived.Test.YtfkgdlfponfimaaGreatU23
import Derived.Test.YtfkgdlfponfimaaGreatU22
import Derived.Test.YtfkgdlfponfimaaGreatU31
/- The configuration of the simple machine for this seat, written by a program of this claim's (xcfg.py). -/
set_option maxRecDepth 100000
namespace Go.Proofs.YtfkgdlfponfimaaGreat.X
open Go Go.RowKit
abbrev BT0 : BT := BTG
def types : List (TypeId × TI) := [
  (1, ⟨.func, 1, 8, .nilf⟩),
  (2, ⟨.int .i64, 1, 8, .int .i64 0⟩),
  (3, ⟨.int .i64, 1, 8, .int .i64 0⟩),
  (4, ⟨.bool, 1, 1, .bool false⟩),
  (5, ⟨.int .u8, 1, 1, .int .u8 0⟩),
  (9, ⟨.str, 1, 16, .str ⟨#[]⟩⟩),
  (12, ⟨.int .u64, 1, 8, .int .u64 0⟩),
  (15, ⟨.ptr, 1, 8, .nilp⟩),
  (16, ⟨.ptr, 1, 8, .nilp⟩),
  (17, ⟨.ptr, 1, 8, .nilp⟩),
  (20, ⟨.iface, 1, 16, .nili⟩),
  (21, ⟨.int .i32, 1, 4, .int .i32 0⟩),
  (22, ⟨.slice 69, 1, 24, .emp⟩),
  (23, ⟨.slice 135, 1, 24, .emp⟩),
  (24, ⟨.slice 138, 1, 24, .emp⟩),
  (25, ⟨.strct [(0, 22), (1, 23), (2, 24)], 3, 72, .agg [.emp, .emp, .emp]⟩),
  (26, ⟨.strct [(0, 22), (1, 23), (2, 24)], 3, 72, .agg [.emp, .emp, .emp]⟩),
  (27, ⟨.slice 28, 1, 24, .emp⟩),
  (28, ⟨.int .u64, 1, 8, .int .u64 0⟩),
  (29, ⟨.slice 40, 1, 24, .emp⟩),
  (30, ⟨.slice 46, 1, 24, .emp⟩),
  (31, ⟨.strct [(0, 26), (3, 27), (4, 28), (5, 29), (6, 30)], 7, 152, .agg [.emp, .emp, .emp, .emp, .int .u64 0, .emp, .emp]⟩),
  (32, ⟨.strct [(0, 26), (3, 27), (4, 28), (5, 29), (6, 30)], 7, 152, .agg [.emp, .emp, .emp, .emp, .int .u64 0, .emp, .emp]⟩),
  (33, ⟨.func, 1, 8, .nilf⟩),
  (34, ⟨.func, 1, 8, .nilf⟩),
  (35, ⟨.ptr, 1, 8, .nilp⟩),
  (36, ⟨.func, 1, 8, .nilf⟩),
  (37, ⟨.ptr, 1, 8, .nilp⟩),
  (38, ⟨.func, 1, 8, .nilf⟩),
  (39, ⟨.strct [(0, 28), (1, 28), (2, 28), (3, 28), (4, 28)], 5, 40, .agg [.int .u64 0, .int .u64 0, .int .u64 0, .int .u64 0, .int .u64 0]⟩),
  (40, ⟨.strct [(0, 28), (1, 28), (2, 28), (3, 28), (4, 28)], 5, 40, .agg [.int .u64 0, .int .u64 0, .int .u64 0, .int .u64 0, .int .u64 0]⟩),
  (41, ⟨.func, 1, 8, .nilf⟩),
  (42, ⟨.func, 1, 8, .nilf⟩),
  (43, ⟨.strct [(0, 3), (1, 40), (6, 28), (7, 28), (8, 28), (9, 28), (10, 9)], 11, 96, .agg [.int .i64 0, .int .u64 0, .int .u64 0, .int .u64 0, .int .u64 0, .int .u64 0, .int .u64 0, .int .u64 0, .int .u64 0, .int .u64 0, .str ⟨#[]⟩]⟩),
  (44, ⟨.strct [(0, 3), (1, 40), (6, 28), (7, 28), (8, 28), (9, 28), (10, 9)], 11, 96, .agg [.int .i64 0, .int .u64 0, .int .u64 0, .int .u64 0, .int .u64 0, .int .u64 0, .int .u64 0, .int .u64 0, .int .u64 0, .int .u64 0, .str ⟨#[]⟩]⟩),
  (45, ⟨.strct [(0, 28), (1, 28), (2, 44), (13, 9)], 14, 128, .agg [.int .u64 0, .int .u64 0, .int .i64 0, .int .u64 0, .int .u64 0, .int .u64 0, .int .u64 0, .int .u64 0, .int .u64 0, .int .u64 0, .int .u64 0, .int .u64 0, .str ⟨#[]⟩, .str ⟨#[]⟩]⟩),
  (46, ⟨.strct [(0, 28), (1, 28), (2, 44), (13, 9)], 14, 128, .agg [.int .u64 0, .int .u64 0, .int .i64 0, .int .u64 0, .int .u64 0, .int .u64 0, .int .u64 0, .int .u64 0, .int .u64 0, .int .u64 0, .int .u64 0, .int .u64 0, .str ⟨#[]⟩, .str ⟨#[]⟩]⟩),
  (47, ⟨.int .i64, 1, 8, .int .i64 0⟩),
  (49, ⟨.func, 1, 8, .nilf⟩),
  (50, ⟨.func, 1, 8, .nilf⟩),
  (51, ⟨.func, 1, 8, .nilf⟩),
  (52, ⟨.func, 1, 8, .nilf⟩),
  (53, ⟨.func, 1, 8, .nilf⟩),
  (54, ⟨.func, 1, 8, .nilf⟩),
  (55, ⟨.func, 1, 8, .nilf⟩),
  (57, ⟨.func, 1, 8, .nilf⟩),
  (59, ⟨.func, 1, 8, .nilf⟩),
  (60, ⟨.func, 1, 8, .nilf⟩),
  (61, ⟨.func, 1, 8, .nilf⟩),
  (62, ⟨.func, 1, 8, .nilf⟩),
  (63, ⟨.func, 1, 8, .nilf⟩),
  (64, ⟨.func, 1, 8, .nilf⟩),
  (66, ⟨.func, 1, 8, .nilf⟩),
  (67, ⟨.slice 9, 1, 24, .emp⟩),
  (68, ⟨.strct [(0, 28), (1, 28), (2, 28), (3, 3), (4, 67)], 5, 56, .agg [.int .u64 0, .int .u64 0, .int .u64 0, .int .i64 0, .emp]⟩),
  (69, ⟨.strct [(0, 28), (1, 28), (2, 28), (3, 3), (4, 67)], 5, 56, .agg [.int .u64 0, .int .u64 0, .int .u64 0, .int .i64 0, .emp]⟩),
  (70, ⟨.func, 1, 8, .nilf⟩),
  (71, ⟨.func, 1, 8, .nilf⟩),
  (72, ⟨.func, 1, 8, .nilf⟩),
  (73, ⟨.func, 1, 8, .nilf⟩),
  (74, ⟨.slice 169, 1, 24, .emp⟩),
  (75, ⟨.strct [(0, 27), (1, 74), (2, 27), (3, 3)], 4, 80, .agg [.emp, .emp, .emp, .int .i64 0]⟩),
  (76, ⟨.strct [(0, 27), (1, 74), (2, 27), (3, 3)], 4, 80, .agg [.emp, .emp, .emp, .int .i64 0]⟩),
  (78, ⟨.func, 1, 8, .nilf⟩),
  (80, ⟨.func, 1, 8, .nilf⟩),
  (81, ⟨.func, 1, 8, .nilf⟩),
  (82, ⟨.func, 1, 8, .nilf⟩),
  (83, ⟨.func, 1, 8, .nilf⟩),
  (85, ⟨.func, 1, 8, .nilf⟩),
  (87, ⟨.func, 1, 8, .nilf⟩),
  (88, ⟨.func, 1, 8, .nilf⟩),
  (89, ⟨.func, 1, 8, .nilf⟩),
  (90, ⟨.func, 1, 8, .nilf⟩),
  (91, ⟨.map 28 3, 1, 8, .nilm⟩),
  (92, ⟨.map 9 28, 1, 8, .nilm⟩),
  (93, ⟨.map 164 28, 1, 8, .nilm⟩),
  (94, ⟨.map 204 28, 1, 8, .nilm⟩),
  (95, ⟨.map 206 3, 1, 8, .nilm⟩),
  (96, ⟨.strct [(0, 27), (1, 3), (2, 4), (3, 91), (4, 91), (5, 92), (6, 93), (7, 94), (8, 95), (9, 67)], 10, 112, .agg [.emp, .int .i64 0, .bool false, .nilm, .nilm, .nilm, .nilm, .nilm, .nilm, .emp]⟩),
  (97, ⟨.strct [(0, 27), (1, 3), (2, 4), (3, 91), (4, 91), (5, 92), (6, 93), (7, 94), (8, 95), (9, 67)], 10, 112, .agg [.emp, .int .i64 0, .bool false, .nilm, .nilm, .nilm, .nilm, .nilm, .nilm, .emp]⟩),
  (98, ⟨.ptr, 1, 8, .nilp⟩),
  (99, ⟨.strct [(0, 35), (1, 28), (2, 26), (5, 44)], 16, 184, .agg [.nilp, .int .u64 0, .emp, .emp, .emp, .int .i64 0, .int .u64 0, .int .u64 0, .int .u64 0, .int .u64 0, .int .u64 0, .int .u64 0, .int .u64 0, .int .u64 0, .int .u64 0, .str ⟨#[]⟩]⟩),
  (100, ⟨.strct [(0, 35), (1, 28), (2, 26), (5, 44)], 16, 184, .agg [.nilp, .int .u64 0, .emp, .emp, .emp, .int .i64 0, .int .u64 0, .int .u64 0, .int .u64 0, .int .u64 0, .int .u64 0, .int .u64 0, .int .u64 0, .int .u64 0, .int .u64 0, .str ⟨#[]⟩]⟩),
  (101, ⟨.func, 1, 8, .nilf⟩),
  (102, ⟨.func, 1, 8, .nilf⟩),
  (103, ⟨.array 6 101, 6, 48, .agg [.nilf, .nilf, .nilf, .nilf, .nilf, .nilf]⟩),
  (105, ⟨.func, 1, 8, .nilf⟩),
  (107, ⟨.func, 1, 8, .nilf⟩),
  (109, ⟨.func, 1, 8, .nilf⟩),
  (111, ⟨.func, 1, 8, .nilf⟩),
  (113, ⟨.func, 1, 8, .nilf⟩),
  (114, ⟨.func, 1, 8, .nilf⟩),
  (116, ⟨.func, 1, 8, .nilf⟩),
  (117, ⟨.func, 1, 8, .nilf⟩),
  (118, ⟨.func, 1, 8, .nilf⟩),
  (119, ⟨.func, 1, 8, .nilf⟩),
  (120, ⟨.ptr, 1, 8, .nilp⟩),
  (121, ⟨.slice 5, 1, 24, .emp⟩),
  (122, ⟨.strct [(0, 120), (1, 121)], 2, 32, .agg [.nilp, .emp]⟩),
  (123, ⟨.bld, 2, 32, .agg [.nilp, .emp]⟩),
  (124, ⟨.iface, 1, 16, .nili⟩),
  (125, ⟨.iface, 1, 16, .nili⟩),
  (127, ⟨.func, 1, 8, .nilf⟩),
  (128, ⟨.func, 1, 8, .nilf⟩),
  (129, ⟨.func, 1, 8, .nilf⟩),
  (130, ⟨.func, 1, 8, .nilf⟩),
  (131, ⟨.func, 1, 8, .nilf⟩),
  (132, ⟨.func, 1, 8, .nilf⟩),
  (133, ⟨.func, 1, 8, .nilf⟩),
  (134, ⟨.strct [(0, 28), (1, 28), (2, 9)], 3, 32, .agg [.int .u64 0, .int .u64 0, .str ⟨#[]⟩]⟩),
  (135, ⟨.strct [(0, 28), (1, 28), (2, 9)], 3, 32, .agg [.int .u64 0, .int .u64 0, .str ⟨#[]⟩]⟩),
  (136, ⟨.func, 1, 8, .nilf⟩),
  (137, ⟨.strct [(0, 28), (1, 28), (2, 28)], 3, 24, .agg [.int .u64 0, .int .u64 0, .int .u64 0]⟩),
  (138, ⟨.strct [(0, 28), (1, 28), (2, 28)], 3, 24, .agg [.int .u64 0, .int .u64 0, .int .u64 0]⟩),
  (139, ⟨.func, 1, 8, .nilf⟩),
  (140, ⟨.func, 1, 8, .nilf⟩),
  (141, ⟨.func, 1, 8, .nilf⟩),
  (142, ⟨.func, 1, 8, .nilf⟩),
  (143, ⟨.func, 1, 8, .nilf⟩),
  (144, ⟨.func, 1, 8, .nilf⟩),
  (145, ⟨.func, 1, 8, .nilf⟩),
  (146, ⟨.func, 1, 8, .nilf⟩),
  (147, ⟨.func, 1, 8, .nilf⟩),
  (148, ⟨.func, 1, 8, .nilf⟩),
  (149, ⟨.ptr, 1, 8, .nilp⟩),
  (150, ⟨.ptr, 1, 8, .nilp⟩),
  (152, ⟨.func, 1, 8, .nilf⟩),
  (154, ⟨.func, 1, 8, .nilf⟩),
  (155, ⟨.func, 1, 8, .nilf⟩),
  (156, ⟨.ptr, 1, 8, .nilp⟩),
  (157, ⟨.slice 156, 1, 24, .emp⟩),
  (158, ⟨.func, 1, 8, .nilf⟩),
  (159, ⟨.func, 1, 8, .nilf⟩),
  (160, ⟨.func, 1, 8, .nilf⟩),
  (161, ⟨.func, 1, 8, .nilf⟩),
  (162, ⟨.ptr, 1, 8, .nilp⟩),
  (163, ⟨.strct [(0, 28), (1, 9)], 2, 24, .agg [.int .u64 0, .str ⟨#[]⟩]⟩),
  (164, ⟨.strct [(0, 28), (1, 9)], 2, 24, .agg [.int .u64 0, .str ⟨#[]⟩]⟩),
  (166, ⟨.func, 1, 8, .nilf⟩),
  (167, ⟨.func, 1, 8, .nilf⟩),
  (168, ⟨.strct [(0, 3), (1, 28), (2, 28), (3, 9), (4, 9), (5, 28)], 6, 64, .agg [.int .i64 0, .int .u64 0, .int .u64 0, .str ⟨#[]⟩, .str ⟨#[]⟩, .int .u64 0]⟩),
  (169, ⟨.strct [(0, 3), (1, 28), (2, 28), (3, 9), (4, 9), (5, 28)], 6, 64, .agg [.int .i64 0, .int .u64 0, .int .u64 0, .str ⟨#[]⟩, .str ⟨#[]⟩, .int .u64 0]⟩),
  (170, ⟨.int .u64, 1, 8, .int .u64 0⟩),
  (172, ⟨.func, 1, 8, .nilf⟩),
  (173, ⟨.func, 1, 8, .nilf⟩),
  (174, ⟨.func, 1, 8, .nilf⟩),
  (175, ⟨.func, 1, 8, .nilf⟩),
  (177, ⟨.func, 1, 8, .nilf⟩),
  (178, ⟨.func, 1, 8, .nilf⟩),
  (179, ⟨.func, 1, 8, .nilf⟩),
  (181, ⟨.func, 1, 8, .nilf⟩),
  (182, ⟨.func, 1, 8, .nilf⟩),
  (183, ⟨.int .u32, 1, 4, .int .u32 0⟩),
  (185, ⟨.func, 1, 8, .nilf⟩),
  (187, ⟨.func, 1, 8, .nilf⟩),
  (188, ⟨.func, 1, 8, .nilf⟩),
  (189, ⟨.func, 1, 8, .nilf⟩),
  (195, ⟨.func, 1, 8, .nilf⟩),
  (198, ⟨.func, 1, 8, .nilf⟩),
  (203, ⟨.strct [(0, 28), (1, 28), (2, 9), (3, 9)], 4, 48, .agg [.int .u64 0, .int .u64 0, .str ⟨#[]⟩, .str ⟨#[]⟩]⟩),
  (204, ⟨.strct [(0, 28), (1, 28), (2, 9), (3, 9)], 4, 48, .agg [.int .u64 0, .int .u64 0, .str ⟨#[]⟩, .str ⟨#[]⟩]⟩),
  (205, ⟨.strct [(0, 28), (1, 28), (2, 28), (3, 9)], 4, 40, .agg [.int .u64 0, .int .u64 0, .int .u64 0, .str ⟨#[]⟩]⟩),
  (206, ⟨.strct [(0, 28), (1, 28), (2, 28), (3, 9)], 4, 40, .agg [.int .u64 0, .int .u64 0, .int .u64 0, .str ⟨#[]⟩]⟩)]
noncomputable def b3 : Code := Tryz.f3.body.getD .skip
noncomputable def fi3 : FI := ⟨b3, 167, [.tmp 2], .pure⟩
noncomputable def b4 : Code := Tryz.f4.body.getD .skip
noncomputable def fi4 : FI := ⟨b4, 77, [.tmp 6], .pure⟩
noncomputable def b5 : Code := Tryz.f5.body.getD .skip
noncomputable def fi5 : FI := ⟨b5, 97, [.tmp 0], .pure⟩
noncomputable def b6 : Code := Tryz.f6.body.getD .skip
noncomputable def fi6 : FI := ⟨b6, 71, [.tmp 2], .borrow⟩
noncomputable def b7 : Code := Tryz.f7.body.getD .skip
noncomputable def fi7 : FI := ⟨b7, 38, [.tmp 2], .keep⟩
noncomputable def b8 : Code := Tryz.f8.body.getD .skip
noncomputable def fi8 : FI := ⟨b8, 8, [.tmp 2], .keep⟩
noncomputable def b9 : Code := Tryz.f9.body.getD .skip
noncomputable def fi9 : FI := ⟨b9, 11, [.cell 6 40], .keep⟩
noncomputable def b10 : Code := Tryz.f10.body.getD .skip
noncomputable def fi10 : FI := ⟨b10, 39, [.cell 2 26], .give⟩
noncomputable def b11 : Code := Tryz.f11.body.getD .skip
noncomputable def fi11 : FI := ⟨b11, 80, [.cell 12 26, .tmp 13, .tmp 14], .giveC⟩
noncomputable def b12 : Code := Tryz.f12.body.getD .skip
noncomputable def fi12 : FI := ⟨b12, 11, [.tmp 2], .pure⟩
noncomputable def b13 : Code := Tryz.f13.body.getD .skip
noncomputable def fi13 : FI := ⟨b13, 97, [.cell 12 26, .tmp 13, .tmp 14], .giveC⟩
noncomputable def b14 : Code := Tryz.f14.body.getD .skip
noncomputable def fi14 : FI := ⟨b14, 48, [.tmp 4], .pure⟩
noncomputable def b15 : Code := Tryz.f15.body.getD .skip
noncomputable def fi15 : FI := ⟨b15, 7, [.tmp 2], .keep⟩
noncomputable def b16 : Code := Tryz.f16.body.getD .skip
noncomputable def fi16 : FI := ⟨b16, 8, [.tmp 2], .keep⟩
noncomputable def b17 : Code := Tryz.f17.body.getD .skip
noncomputable def fi17 : FI := ⟨b17, 50, [.cell 8 26, .tmp 9, .tmp 10], .giveC⟩
noncomputable def b18 : Code := Tryz.f18.body.getD .skip
noncomputable def fi18 : FI := ⟨b18, 88, [.cell 8 26, .tmp 9, .tmp 10], .giveC⟩
noncomputable def b19 : Code := Tryz.f19.body.getD .skip
noncomputable def fi19 : FI := ⟨b19, 75, [.cell 2 44, .tmp 3], .pure⟩
noncomputable def b20 : Code := Tryz.f20.body.getD .skip
noncomputable def fi20 : FI := ⟨b20, 76, [.cell 2 44, .tmp 3], .pure⟩
noncomputable def b21 : Code := Tryz.f21.body.getD .skip
noncomputable def fi21 : FI := ⟨b21, 83, [.cell 2 26, .tmp 3], .pure⟩
noncomputable def b22 : Code := Tryz.f22.body.getD .skip
noncomputable def fi22 : FI := ⟨b22, 144, [.cell 2 26, .tmp 3], .pure⟩
noncomputable def b23 : Code := Tryz.f23.body.getD .skip
noncomputable def fi23 : FI := ⟨b23, 31, [.tmp 2], .pure⟩
noncomputable def b24 : Code := Tryz.f24.body.getD .skip
noncomputable def fi24 : FI := ⟨b24, 31, [.tmp 2], .pure⟩
noncomputable def b25 : Code := Tryz.f25.body.getD .skip
noncomputable def fi25 : FI := ⟨b25, 60, [.tmp 2], .pure⟩
noncomputable def b26 : Code := Tryz.f26.body.getD .skip
noncomputable def fi26 : FI := ⟨b26, 52, [.tmp 2], .pure⟩
noncomputable def b27 : Code := Tryz.f27.body.getD .skip
noncomputable def fi27 : FI := ⟨b27, 56, [.tmp 2], .pure⟩
noncomputable def b28 : Code := Tryz.f28.body.getD .skip
noncomputable def fi28 : FI := ⟨b28, 13, [.tmp 2], .keep⟩
noncomputable def b29 : Code := Tryz.f29.body.getD .skip
noncomputable def fi29 : FI := ⟨b29, 26, [.cell 12 40], .keep⟩
noncomputable def b30 : Code := Tryz.f30.body.getD .skip
noncomputable def fi30 : FI := ⟨b30, 21, [.cell 6 26, .tmp 7], .keep⟩
noncomputable def b31 : Code := Tryz.f31.body.getD .skip
noncomputable def fi31 : FI := ⟨b31, 22, [.tmp 4], .borrow⟩
noncomputable def b32 : Code := Tryz.f32.body.getD .skip
noncomputable def fi32 : FI := ⟨b32, 13, [.tmp 2], .pure⟩
noncomputable def b33 : Code := Tryz.f33.body.getD .skip
noncomputable def fi33 : FI := ⟨b33, 37, [.tmp 2], .borrow⟩
noncomputable def b34 : Code := Tryz.f34.body.getD .skip
noncomputable def fi34 : FI := ⟨b34, 22, [.tmp 2], .borrow⟩
noncomputable def b35 : Code := Tryz.f35.body.getD .skip
noncomputable def fi35 : FI := ⟨b35, 15, [.cell 6 40], .keep⟩
noncomputable def b36 : Code := Tryz.f36.body.getD .skip
noncomputable def fi36 : FI := ⟨b36, 38, [.tmp 6, .tmp 7], .pure⟩
noncomputable def b37 : Code := Tryz.f37.body.getD .skip
noncomputable def fi37 : FI := ⟨b37, 32, [.cell 2 26], .keep⟩
noncomputable def b38 : Code := Tryz.f38.body.getD .skip
noncomputable def fi38 : FI := ⟨b38, 27, [.tmp 2, .tmp 3], .pure⟩
noncomputable def b39 : Code := Tryz.f39.body.getD .skip
noncomputable def fi39 : FI := ⟨b39, 32, [.tmp 8], .cast⟩
noncomputable def b40 : Code := Tryz.f40.body.getD .skip
noncomputable def fi40 : FI := ⟨b40, 6, [.tmp 2], .pure⟩
noncomputable def b41 : Code := Tryz.f41.body.getD .skip
noncomputable def fi41 : FI := ⟨b41, 9, [.tmp 2], .pure⟩
noncomputable def b42 : Code := Tryz.f42.body.getD .skip
noncomputable def fi42 : FI := ⟨b42, 41, [.tmp 6, .tmp 7], .borrow⟩
noncomputable def b43 : Code := Tryz.f43.body.getD .skip
noncomputable def fi43 : FI := ⟨b43, 45, [.tmp 2, .tmp 3, .tmp 4], .pure⟩
noncomputable def b44 : Code := Tryz.f44.body.getD .skip
noncomputable def fi44 : FI := ⟨b44, 43, [.tmp 4, .tmp 5, .tmp 6], .pure⟩
noncomputable def b45 : Code := Tryz.f45.body.getD .skip
noncomputable def fi45 : FI := ⟨b45, 50, [.tmp 8], .giveC⟩
noncomputable def b46 : Code := Tryz.f46.body.getD .skip
noncomputable def fi46 : FI := ⟨b46, 23, [.tmp 2], .pure⟩
noncomputable def b47 : Code := Tryz.f47.body.getD .skip
noncomputable def fi47 : FI := ⟨b47, 9, [.tmp 2], .pure⟩
noncomputable def b48 : Code := Tryz.f48.body.getD .skip
noncomputable def fi48 : FI := ⟨b48, 26, [.tmp 4], .pure⟩
noncomputable def b49 : Code := Tryz.f49.body.getD .skip
noncomputable def fi49 : FI := ⟨b49, 26, [.tmp 4], .pure⟩
noncomputable def b50 : Code := Tryz.f50.body.getD .skip
noncomputable def fi50 : FI := ⟨b50, 38, [.tmp 4], .pure⟩
noncomputable def b51 : Code := Tryz.f51.body.getD .skip
noncomputable def fi51 : FI := ⟨b51, 72, [.tmp 2, .tmp 3], .keep⟩
noncomputable def b52 : Code := Tryz.f52.body.getD .skip
noncomputable def fi52 : FI := ⟨b52, 40, [.tmp 2, .tmp 3], .keep⟩
noncomputable def b53 : Code := Tryz.f53.body.getD .skip
noncomputable def fi53 : FI := ⟨b53, 32, [.tmp 2, .tmp 3], .keep⟩
noncomputable def b54 : Code := Tryz.f54.body.getD .skip
noncomputable def fi54 : FI := ⟨b54, 67, [.tmp 2, .tmp 3], .keep⟩
noncomputable def b55 : Code := Tryz.f55.body.getD .skip
noncomputable def fi55 : FI := ⟨b55, 19, [.tmp 2, .tmp 3], .keep⟩
noncomputable def b56 : Code := Tryz.f56.body.getD .skip
noncomputable def fi56 : FI := ⟨b56, 46, [.tmp 2, .tmp 3], .keep⟩
noncomputable def b57 : Code := Tryz.f57.body.getD .skip
noncomputable def fi57 : FI := ⟨b57, 52, [.cell 4 26, .tmp 5], .keep⟩
noncomputable def b58 : Code := Tryz.f58.body.getD .skip
noncomputable def fi58 : FI := ⟨b58, 34, [.tmp 6, .tmp 7], .keep⟩
noncomputable def b59 : Code := Tryz.f59.body.getD .skip
noncomputable def fi59 : FI := ⟨b59, 126, [.cell 8 26, .tmp 9, .tmp 10], .keep⟩
noncomputable def b60 : Code := Tryz.f60.body.getD .skip
noncomputable def fi60 : FI := ⟨b60, 30, [.tmp 4, .tmp 5, .tmp 6], .pure⟩
noncomputable def b61 : Code := Tryz.f61.body.getD .skip
noncomputable def fi61 : FI := ⟨b61, 41, [.tmp 4, .tmp 5, .tmp 6], .pure⟩
noncomputable def b62 : Code := Tryz.f62.body.getD .skip
noncomputable def fi62 : FI := ⟨b62, 31, [.tmp 4, .tmp 5, .tmp 6], .pure⟩
noncomputable def b63 : Code := Tryz.f63.body.getD .skip
noncomputable def fi63 : FI := ⟨b63, 70, [.tmp 2, .tmp 3, .tmp 4], .pure⟩
noncomputable def b64 : Code := Tryz.f64.body.getD .skip
noncomputable def fi64 : FI := ⟨b64, 71, [.tmp 2, .tmp 3], .pure⟩
noncomputable def b65 : Code := Tryz.f65.body.getD .skip
noncomputable def fi65 : FI := ⟨b65, 59, [.tmp 2, .tmp 3], .pure⟩
noncomputable def b66 : Code := Tryz.f66.body.getD .skip
noncomputable def fi66 : FI := ⟨b66, 56, [.tmp 4, .tmp 5, .tmp 6], .pure⟩
noncomputable def b67 : Code := Tryz.f67.body.getD .skip
noncomputable def fi67 : FI := ⟨b67, 80, [.tmp 2, .tmp 3], .pure⟩
noncomputable def b68 : Code := Tryz.f68.body.getD .skip
noncomputable def fi68 : FI := ⟨b68, 80, [.tmp 2, .tmp 3], .pure⟩
noncomputable def b69 : Code := Tryz.f69.body.getD .skip
noncomputable def fi69 : FI := ⟨b69, 9, [.tmp 2], .pure⟩
noncomputable def b70 : Code := Tryz.f70.body.getD .skip
noncomputable def fi70 : FI := ⟨b70, 9, [.tmp 2], .pure⟩
noncomputable def b71 : Code := Tryz.f71.body.getD .skip
noncomputable def fi71 : FI := ⟨b71, 29, [.tmp 2], .borrow⟩
noncomputable def b72 : Code := Tryz.f72.body.getD .skip
noncomputable def fi72 : FI := ⟨b72, 22, [.tmp 2], .borrow⟩
noncomputable def b73 : Code := Tryz.f73.body.getD .skip
noncomputable def fi73 : FI := ⟨b73, 9, [.tmp 4], .borrow⟩
noncomputable def b74 : Code := Tryz.f74.body.getD .skip
noncomputable def fi74 : FI := ⟨b74, 9, [.tmp 4], .pure⟩
noncomputable def b75 : Code := Tryz.f75.body.getD .skip
noncomputable def fi75 : FI := ⟨b75, 6, [.tmp 2], .pure⟩
noncomputable def b77 : Code := Tryz.f77.body.getD .skip
noncomputable def fi77 : FI := ⟨b77, 22, [.tmp 2], .pure⟩
noncomputable def b78 : Code := Tryz.f78.body.getD .skip
noncomputable def fi78 : FI := ⟨b78, 31, [.tmp 2], .pure⟩
noncomputable def b79 : Code := Tryz.f79.body.getD .skip
noncomputable def fi79 : FI := ⟨b79, 31, [.tmp 2], .pure⟩
noncomputable def b81 : Code := Tryz.f81.body.getD .skip
noncomputable def fi81 : FI := ⟨b81, 23, [.tmp 2], .pure⟩
noncomputable def b82 : Code := Tryz.f82.body.getD .skip
noncomputable def fi82 : FI := ⟨b82, 38, [.tmp 2], .pure⟩
noncomputable def b83 : Code := Tryz.f83.body.getD .skip
noncomputable def fi83 : FI := ⟨b83, 38, [.tmp 2], .pure⟩
noncomputable def b84 : Code := Tryz.f84.body.getD .skip
noncomputable def fi84 : FI := ⟨b84, 8, [.tmp 2], .clone⟩
noncomputable def b85 : Code := Tryz.f85.body.getD .skip
noncomputable def fi85 : FI := ⟨b85, 33, [.tmp 6], .keep⟩
noncomputable def b86 : Code := Tryz.f86.body.getD .skip
noncomputable def fi86 : FI := ⟨b86, 6, [.tmp 2], .pure⟩
noncomputable def b87 : Code := Tryz.f87.body.getD .skip
noncomputable def fi87 : FI := ⟨b87, 20, [.tmp 4], .borrow⟩
noncomputable def b88 : Code := Tryz.f88.body.getD .skip
noncomputable def fi88 : FI := ⟨b88, 12, [.tmp 6], .keep⟩
noncomputable def b89 : Code := Tryz.f89.body.getD .skip
noncomputable def fi89 : FI := ⟨b89, 18, [.tmp 2], .pure⟩
noncomputable def b90 : Code := Tryz.f90.body.getD .skip
noncomputable def fi90 : FI := ⟨b90, 19, [.tmp 4], .full⟩
noncomputable def b91 : Code := Tryz.f91.body.getD .skip
noncomputable def fi91 : FI := ⟨b91, 4, [.tmp 2], .keep⟩
noncomputable def b92 : Code := Tryz.f92.body.getD .skip
noncomputable def fi92 : FI := ⟨b92, 8, [.tmp 2], .clone⟩
noncomputable def b93 : Code := Tryz.f93.body.getD .skip
noncomputable def fi93 : FI := ⟨b93, 8, [.tmp 2], .clone⟩
noncomputable def b94 : Code := Tryz.f94.body.getD .skip
noncomputable def fi94 : FI := ⟨b94, 8, [.tmp 2], .clone⟩
noncomputable def b95 : Code := Tryz.f95.body.getD .skip
noncomputable def fi95 : FI := ⟨b95, 44, [.tmp 2, .tmp 3, .tmp 4], .pure⟩
noncomputable def b96 : Code := Tryz.f96.body.getD .skip
noncomputable def fi96 : FI := ⟨b96, 42, [.tmp 4], .keep⟩
noncomputable def b97 : Code := Tryz.f97.body.getD .skip
noncomputable def fi97 : FI := ⟨b97, 20, [.tmp 4], .keep⟩
noncomputable def b98 : Code := Tryz.f98.body.getD .skip
noncomputable def fi98 : FI := ⟨b98, 26, [.tmp 4], .pure⟩
noncomputable def b99 : Code := Tryz.f99.body.getD .skip
noncomputable def fi99 : FI := ⟨b99, 48, [.tmp 4], .pure⟩
noncomputable def b100 : Code := Tryz.f100.body.getD .skip
noncomputable def fi100 : FI := ⟨b100, 36, [.tmp 6, .tmp 7], .keep⟩
noncomputable def b101 : Code := Tryz.f101.body.getD .skip
noncomputable def fi101 : FI := ⟨b101, 106, [.tmp 4, .tmp 5, .tmp 6], .keep⟩
noncomputable def b102 : Code := Tryz.f102.body.getD .skip
noncomputable def fi102 : FI := ⟨b102, 43, [.tmp 6, .tmp 7], .keep⟩
noncomputable def b103 : Code := Tryz.f103.body.getD .skip
noncomputable def fi103 : FI := ⟨b103, 30, [.tmp 6, .tmp 7], .keep⟩
noncomputable def b104 : Code := Tryz.f104.body.getD .skip
noncomputable def fi104 : FI := ⟨b104, 52, [.tmp 12], .keep⟩
noncomputable def b105 : Code := Tryz.f105.body.getD .skip
noncomputable def fi105 : FI := ⟨b105, 44, [.tmp 6, .tmp 7], .keep⟩
noncomputable def b106 : Code := Tryz.f106.body.getD .skip
noncomputable def fi106 : FI := ⟨b106, 41, [.tmp 6, .tmp 7], .keep⟩
noncomputable def b107 : Code := Tryz.f107.body.getD .skip
noncomputable def fi107 : FI := ⟨b107, 41, [.tmp 4, .tmp 5, .tmp 6], .pure⟩
noncomputable def b108 : Code := Tryz.f108.body.getD .skip
noncomputable def fi108 : FI := ⟨b108, 18, [.tmp 2], .pure⟩
noncomputable def b109 : Code := Tryz.f109.body.getD .skip
noncomputable def fi109 : FI := ⟨b109, 9, [.tmp 4], .full⟩
noncomputable def b110 : Code := Tryz.f110.body.getD .skip
noncomputable def fi110 : FI := ⟨b110, 8, [.tmp 4], .borrow⟩
noncomputable def b111 : Code := Tryz.f111.body.getD .skip
noncomputable def fi111 : FI := ⟨b111, 19, [.tmp 4], .full⟩
noncomputable def b112 : Code := Tryz.f112.body.getD .skip
noncomputable def fi112 : FI := ⟨b112, 8, [.tmp 3], .full⟩
noncomputable def b113 : Code := Tryz.f113.body.getD .skip
noncomputable def fi113 : FI := ⟨b113, 19, [.tmp 4], .pure⟩
noncomputable def b115 : Code := Tryz.f115.body.getD .skip
noncomputable def fi115 : FI := ⟨b115, 68, [.tmp 2], .keep⟩
noncomputable def b116 : Code := Tryz.f116.body.getD .skip
noncomputable def fi116 : FI := ⟨b116, 22, [.tmp 4], .keep⟩
noncomputable def b117 : Code := Tryz.f117.body.getD .skip
noncomputable def fi117 : FI := ⟨b117, 8, [.tmp 3], .full⟩
noncomputable def b118 : Code := Tryz.f118.body.getD .skip
noncomputable def fi118 : FI := ⟨b118, 30, [.tmp 4, .tmp 5], .pure⟩
noncomputable def b119 : Code := Tryz.f119.body.getD .skip
noncomputable def fi119 : FI := ⟨b119, 38, [.tmp 12], .keep⟩
noncomputable def b120 : Code := Tryz.f120.body.getD .skip
noncomputable def fi120 : FI := ⟨b120, 16, [.tmp 6], .keep⟩
noncomputable def b121 : Code := Tryz.f121.body.getD .skip
noncomputable def fi121 : FI := ⟨b121, 32, [.tmp 8], .keep⟩
noncomputable def b122 : Code := Tryz.f122.body.getD .skip
noncomputable def fi122 : FI := ⟨b122, 38, [.tmp 4, .tmp 5, .tmp 6], .pure⟩
noncomputable def b123 : Code := Tryz.f123.body.getD .skip
noncomputable def fi123 : FI := ⟨b123, 19, [.tmp 4], .full⟩
noncomputable def b124 : Code := Tryz.f124.body.getD .skip
noncomputable def fi124 : FI := ⟨b124, 8, [.tmp 3], .full⟩
noncomputable def b126 : Code := Tryz.f126.body.getD .skip
noncomputable def fi126 : FI := ⟨b126, 62, [.tmp 4], .keep⟩
noncomputable def b127 : Code := Tryz.f127.body.getD .skip
noncomputable def fi127 : FI := ⟨b127, 64, [.tmp 4], .keep⟩
noncomputable def b128 : Code := Tryz.f128.body.getD .skip
noncomputable def fi128 : FI := ⟨b128, 17, [.tmp 4, .tmp 5], .pure⟩
noncomputable def b129 : Code := Tryz.f129.body.getD .skip
noncomputable def fi129 : FI := ⟨b129, 51, [.tmp 4, .tmp 5], .pure⟩
noncomputable def b130 : Code := Tryz.f130.body.getD .skip
noncomputable def fi130 : FI := ⟨b130, 31, [.tmp 8], .keep⟩
noncomputable def b131 : Code := Tryz.f131.body.getD .skip
noncomputable def fi131 : FI := ⟨b131, 18, [], .keep⟩
noncomputable def b132 : Code := Tryz.f132.body.getD .skip
noncomputable def fi132 : FI := ⟨b132, 25, [.tmp 4], .keep⟩
noncomputable def b133 : Code := Tryz.f133.body.getD .skip
noncomputable def fi133 : FI := ⟨b133, 24, [.tmp 4], .keep⟩
noncomputable def b134 : Code := Tryz.f134.body.getD .skip
noncomputable def fi134 : FI := ⟨b134, 16, [], .keep⟩
noncomputable def fns : List (FuncId × FI) := [(3, fi3), (4, fi4), (5, fi5), (6, fi6), (7, fi7), (8, fi8), (9, fi9), (10, fi10), (11, fi11), (12, fi12), (13, fi13), (14, fi14), (15, fi15), (16, fi16), (17, fi17), (18, fi18), (19, fi19), (20, fi20), (21, fi21), (22, fi22), (23, fi23), (24, fi24), (25, fi25), (26, fi26), (27, fi27), (28, fi28), (29, fi29), (30, fi30), (31, fi31), (32, fi32), (33, fi33), (34, fi34), (35, fi35), (36, fi36), (37, fi37), (38, fi38), (39, fi39), (40, fi40), (41, fi41), (42, fi42), (43, fi43), (44, fi44), (45, fi45), (46, fi46), (47, fi47), (48, fi48), (49, fi49), (50, fi50), (51, fi51), (52, fi52), (53, fi53), (54, fi54), (55, fi55), (56, fi56), (57, fi57), (58, fi58), (59, fi59), (60, fi60), (61, fi61), (62, fi62), (63, fi63), (64, fi64), (65, fi65), (66, fi66), (67, fi67), (68, fi68), (69, fi69), (70, fi70), (71, fi71), (72, fi72), (73, fi73), (74, fi74), (75, fi75), (77, fi77), (78, fi78), (79, fi79), (81, fi81), (82, fi82), (83, fi83), (84, fi84), (85, fi85), (86, fi86), (87, fi87), (88, fi88), (89, fi89), (90, fi90), (91, fi91), (92, fi92), (93, fi93), (94, fi94), (95, fi95), (96, fi96), (97, fi97), (98, fi98), (99, fi99), (100, fi100), (101, fi101), (102, fi102), (103, fi103), (104, fi104), (105, fi105), (106, fi106), (107, fi107), (108, fi108), (109, fi109), (110, fi110), (111, fi111), (112, fi112), (113, fi113), (115, fi115), (116, fi116), (117, fi117), (118, fi118), (119, fi119), (120, fi120), (121, fi121), (122, fi122), (123, fi123), (124, fi124), (126, fi126), (127, fi127), (128, fi128), (129, fi129), (130, fi130), (131, fi131), (132, fi132), (133, fi133), (134, fi134)]
def givens (f : FuncId) : Option Given := if f = 76 then some .bWrite else if f = 80 then some .bString else none
def meths (t : TypeId) (m : String) : Option (FuncId × Option TypeId) := none
def flags (i n d : Nat) : List Tmp := bif Nat.beq i 1 && Nat.beq n 8 && Nat.beq d 11 then [7] else bif Nat.beq i 1 && Nat.beq n 9 && Nat.beq d 0 then [1] else bif Nat.beq i 1 && Nat.beq n 11 && Nat.beq d 0 then [1] else bif Nat.beq i 6 && Nat.beq n 21 && Nat.beq d 39 then [5] else bif Nat.beq i 9 && Nat.beq n 10 && Nat.beq d 0 then [1] else bif Nat.beq i 18 && Nat.beq n 4 && Nat.beq d 0 then [13] else []
noncomputable def cfg : Cfg := ⟨look types, lookF fns, givens, meths, flags⟩
theorem T1 : cfg.T 1 = some ⟨.func, 1, 8, .nilf⟩ := rfl
theorem T2 : cfg.T 2 = some ⟨.int .i64, 1, 8, .int .i64 0⟩ := rfl
theorem T9 : cfg.T 9 = some ⟨.str, 1, 16, .str ⟨#[]⟩⟩ := rfl
theorem T22 : cfg.T 22 = some ⟨.slice 69, 1, 24, .emp⟩ := rfl
theorem T23 : cfg.T 23 = some ⟨.slice 135, 1, 24, .emp⟩ := rfl
theorem T24 : cfg.T 24 = some ⟨.slice 138, 1, 24, .emp⟩ := rfl
theorem T67 : cfg.T 67 = some ⟨.slice 9, 1, 24, .emp⟩ := rfl
theorem T69 : cfg.T 69 = some ⟨.strct [(0, 28), (1, 28), (2, 28), (3, 3), (4, 67)], 5, 56, .agg [.int .u64 0, .int .u64 0, .int .u64 0, .int .i64 0, .emp]⟩ := rfl
theorem T135 : cfg.T 135 = some ⟨.strct [(0, 28), (1, 28), (2, 9)], 3, 32, .agg [.int .u64 0, .int .u64 0, .str ⟨#[]⟩]⟩ := rfl
theorem T138 : cfg.T 138 = some ⟨.strct [(0, 28), (1, 28), (2, 28)], 3, 24, .agg [.int .u64 0, .int .u64 0, .int .u64 0]⟩ := rfl
theorem F3 : cfg.fn 3 = some fi3 := rfl
theorem g3 : cfg.given 3 = none := rfl
theorem g4 : cfg.given 4 = none := rfl
theorem g5 : cfg.given 5 = none := rfl
theorem F6 : cfg.fn 6 = some fi6 := rfl
theorem g6 : cfg.given 6 = none := rfl
theorem F7 : cfg.fn 7 = some fi7 := rfl
theorem g7 : cfg.given 7 = none := rfl
theorem F8 : cfg.fn 8 = some fi8 := rfl
theorem g8 : cfg.given 8 = none := rfl
theorem F9 : cfg.fn 9 = some fi9 := rfl
theorem g9 : cfg.given 9 = none := rfl
theorem F10 : cfg.fn 10 = some fi10 := rfl
theorem g10 : cfg.given 10 = none := rfl
theorem F11 : cfg.fn 11 = some fi11 := rfl
theorem g11 : cfg.given 11 = none := rfl
theorem F12 : cfg.fn 12 = some fi12 := rfl
theorem g12 : cfg.given 12 = none := rfl
theorem F13 : cfg.fn 13 = some fi13 := rfl
theorem g13 : cfg.given 13 = none := rfl
theorem F14 : cfg.fn 14 = some fi14 := rfl
theorem g14 : cfg.given 14 = none := rfl
theorem F15 : cfg.fn 15 = some fi15 := rfl
theorem g15 : cfg.given 15 = none := rfl
theorem F16 : cfg.fn 16 = some fi16 := rfl
theorem g16 : cfg.given 16 = none := rfl
theorem F17 : cfg.fn 17 = some fi17 := rfl
theorem g17 : cfg.given 17 = none := rfl
theorem F18 : cfg.fn 18 = some fi18 := rfl
theorem g18 : cfg.given 18 = none := rfl
theorem F19 : cfg.fn 19 = some fi19 := rfl
theorem g19 : cfg.given 19 = none := rfl
theorem F20 : cfg.fn 20 = some fi20 := rfl
theorem g20 : cfg.given 20 = none := rfl
theorem F23 : cfg.fn 23 = some fi23 := rfl
theorem g23 : cfg.given 23 = none := rfl
theorem F28 : cfg.fn 28 = some fi28 := rfl
theorem g28 : cfg.given 28 = none := rfl
theorem F29 : cfg.fn 29 = some fi29 := rfl
theorem g29 : cfg.given 29 = none := rfl
theorem F31 : cfg.fn 31 = some fi31 := rfl
theorem g31 : cfg.given 31 = none := rfl
theorem F33 : cfg.fn 33 = some fi33 := rfl
theorem g33 : cfg.given 33 = none := rfl
theorem F34 : cfg.fn 34 = some fi34 := rfl
theorem g34 : cfg.given 34 = none := rfl
theorem F35 : cfg.fn 35 = some fi35 := rfl
theorem g35 : cfg.given 35 = none := rfl
theorem F36 : cfg.fn 36 = some fi36 := rfl
theorem g36 : cfg.given 36 = none := rfl
theorem F37 : cfg.fn 37 = some fi37 := rfl
theorem g37 : cfg.given 37 = none := rfl
theorem F38 : cfg.fn 38 = some fi38 := rfl
theorem g38 : cfg.given 38 = none := rfl
theorem F39 : cfg.fn 39 = some fi39 := rfl
theorem g39 : cfg.given 39 = none := rfl
theorem F40 : cfg.fn 40 = some fi40 := rfl
theorem g40 : cfg.given 40 = none := rfl
theorem F41 : cfg.fn 41 = some fi41 := rfl
theorem g41 : cfg.given 41 = none := rfl
theorem F42 : cfg.fn 42 = some fi42 := rfl
theorem g42 : cfg.given 42 = none := rfl
theorem F43 : cfg.fn 43 = some fi43 := rfl
theorem g43 : cfg.given 43 = none := rfl
theorem F44 : cfg.fn 44 = some fi44 := rfl
theorem g44 : cfg.given 44 = none := rfl
theorem F45 : cfg.fn 45 = some fi45 := rfl
theorem g45 : cfg.given 45 = none := rfl
theorem F46 : cfg.fn 46 = some fi46 := rfl
theorem g46 : cfg.given 46 = none := rfl
theorem F47 : cfg.fn 47 = some fi47 := rfl
theorem g47 : cfg.given 47 = none := rfl
theorem F48 : cfg.fn 48 = some fi48 := rfl
theorem g48 : cfg.given 48 = none := rfl
theorem F49 : cfg.fn 49 = some fi49 := rfl
theorem g49 : cfg.given 49 = none := rfl
theorem F50 : cfg.fn 50 = some fi50 := rfl
theorem g50 : cfg.given 50 = none := rfl
theorem F51 : cfg.fn 51 = some fi51 := rfl
theorem g51 : cfg.given 51 = none := rfl
theorem F52 : cfg.fn 52 = some fi52 := rfl
theorem g52 : cfg.given 52 = none := rfl
theorem F53 : cfg.fn 53 = some fi53 := rfl
theorem g53 : cfg.given 53 = none := rfl
theorem F54 : cfg.fn 54 = some fi54 := rfl
theorem g54 : cfg.given 54 = none := rfl
theorem F55 : cfg.fn 55 = some fi55 := rfl
theorem g55 : cfg.given 55 = none := rfl
theorem F56 : cfg.fn 56 = some fi56 := rfl
theorem g56 : cfg.given 56 = none := rfl
theorem F57 : cfg.fn 57 = some fi57 := rfl
theorem g57 : cfg.given 57 = none := rfl
theorem F58 : cfg.fn 58 = some fi58 := rfl
theorem g58 : cfg.given 58 = none := rfl
theorem F59 : cfg.fn 59 = some fi59 := rfl
theorem g59 : cfg.given 59 = none := rfl
theorem F60 : cfg.fn 60 = some fi60 := rfl
theorem g60 : cfg.given 60 = none := rfl
theorem F61 : cfg.fn 61 = some fi61 := rfl
theorem g61 : cfg.given 61 = none := rfl
theorem F62 : cfg.fn 62 = some fi62 := rfl
theorem g62 : cfg.given 62 = none := rfl
theorem F69 : cfg.fn 69 = some fi69 := rfl
theorem g69 : cfg.given 69 = none := rfl
theorem F73 : cfg.fn 73 = some fi73 := rfl
theorem g73 : cfg.given 73 = none := rfl
theorem F75 : cfg.fn 75 = some fi75 := rfl
theorem g75 : cfg.given 75 = none := rfl
theorem F84 : cfg.fn 84 = some fi84 := rfl
theorem g84 : cfg.given 84 = none := rfl
theorem F85 : cfg.fn 85 = some fi85 := rfl
theorem g85 : cfg.given 85 = none := rfl
theorem F86 : cfg.fn 86 = some fi86 := rfl
theorem g86 : cfg.given 86 = none := rfl
theorem F87 : cfg.fn 87 = some fi87 := rfl
theorem g87 : cfg.given 87 = none := rfl
theorem F88 : cfg.fn 88 = some fi88 := rfl
theorem g88 : cfg.given 88 = none := rfl
theorem F89 : cfg.fn 89 = some fi89 := rfl
theorem g89 : cfg.given 89 = none := rfl
theorem F90 : cfg.fn 90 = some fi90 := rfl
theorem g90 : cfg.given 90 = none := rfl
theorem F91 : cfg.fn 91 = some fi91 := rfl
theorem g91 : cfg.given 91 = none := rfl
theorem F92 : cfg.fn 92 = some fi92 := rfl
theorem g92 : cfg.given 92 = none := rfl
theorem F93 : cfg.fn 93 = some fi93 := rfl
theorem g93 : cfg.given 93 = none := rfl
theorem F94 : cfg.fn 94 = some fi94 := rfl
theorem g94 : cfg.given 94 = none := rfl
theorem F95 : cfg.fn 95 = some fi95 := rfl
theorem g95 : cfg.given 95 = none := rfl
theorem F96 : cfg.fn 96 = some fi96 := rfl
theorem g96 : cfg.given 96 = none := rfl
theorem F97 : cfg.fn 97 = some fi97 := rfl
theorem g97 : cfg.given 97 = none := rfl
theorem F98 : cfg.fn 98 = some fi98 := rfl
theorem g98 : cfg.given 98 = none := rfl
theorem F99 : cfg.fn 99 = some fi99 := rfl
theorem g99 : cfg.given 99 = none := rfl
theorem F100 : cfg.fn 100 = some fi100 := rfl
theorem g100 : cfg.given 100 = none := rfl
theorem F101 : cfg.fn 101 = some fi101 := rfl
theorem g101 : cfg.given 101 = none := rfl
theorem F102 : cfg.fn 102 = some fi102 := rfl
theorem g102 : cfg.given 102 = none := rfl
theorem F103 : cfg.fn 103 = some fi103 := rfl
theorem g103 : cfg.given 103 = none := rfl
theorem F104 : cfg.fn 104 = some fi104 := rfl
theorem g104 : cfg.given 104 = none := rfl
theorem F105 : cfg.fn 105 = some fi105 := rfl
theorem g105 : cfg.given 105 = none := rfl
theorem F106 : cfg.fn 106 = some fi106 := rfl
theorem g106 : cfg.given 106 = none := rfl
theorem F108 : cfg.fn 108 = some fi108 := rfl
theorem g108 : cfg.given 108 = none := rfl
theorem F110 : cfg.fn 110 = some fi110 := rfl
theorem g110 : cfg.given 110 = none := rfl
theorem F111 : cfg.fn 111 = some fi111 := rfl
theorem g111 : cfg.given 111 = none := rfl
theorem F112 : cfg.fn 112 = some fi112 := rfl
theorem g112 : cfg.given 112 = none := rfl
theorem F115 : cfg.fn 115 = some fi115 := rfl
theorem g115 : cfg.given 115 = none := rfl
theorem F116 : cfg.fn 116 = some fi116 := rfl
theorem g116 : cfg.given 116 = none := rfl
theorem F117 : cfg.fn 117 = some fi117 := rfl
theorem g117 : cfg.given 117 = none := rfl
theorem F119 : cfg.fn 119 = some fi119 := rfl
theorem g119 : cfg.given 119 = none := rfl
theorem F120 : cfg.fn 120 = some fi120 := rfl
theorem g120 : cfg.given 120 = none := rfl
theorem F121 : cfg.fn 121 = some fi121 := rfl
theorem g121 : cfg.given 121 = none := rfl
theorem F123 : cfg.fn 123 = some fi123 := rfl
theorem g123 : cfg.given 123 = none := rfl
theorem F124 : cfg.fn 124 = some fi124 := rfl
theorem g124 : cfg.given 124 = none := rfl
theorem F126 : cfg.fn 126 = some fi126 := rfl
theorem g126 : cfg.given 126 = none := rfl
theorem F127 : cfg.fn 127 = some fi127 := rfl
theorem g127 : cfg.given 127 = none := rfl
theorem F130 : cfg.fn 130 = some fi130 := rfl
theorem g130 : cfg.given 130 = none := rfl
theorem F131 : cfg.fn 131 = some fi131 := rfl
theorem g131 : cfg.given 131 = none := rfl
theorem F132 : cfg.fn 132 = some fi132 := rfl
theorem g132 : cfg.given 132 = none := rfl
theorem F133 : cfg.fn 133 = some fi133 := rfl
theorem g133 : cfg.given 133 = none := rfl
theorem F134 : cfg.fn 134 = some fi134 := rfl
theorem g134 : cfg.given 134 = none := rfl
theorem types_ok : (types.all fun p => tokB BT0 Tryz.prog p.1 p.2) = true := by kernel_rfl
theorem fok3 : FOK Tryz.prog cfg 3 fi3 := ⟨Tryz.f3, Tryz.func3, rfl, rfl, rfl, by kernel_rfl, by decide⟩
theorem fok4 : FOK Tryz.prog cfg 4 fi4 := ⟨Tryz.f4, Tryz.func4, rfl, rfl, rfl, by kernel_rfl, by decide⟩
theorem fok5 : FOK Tryz.prog cfg 5 fi5 := ⟨Tryz.f5, Tryz.func5, rfl, rfl, rfl, by kernel_rfl, by decide⟩
theorem fok6 : FOK Tryz.prog cfg 6 fi6 := ⟨Tryz.f6, Tryz.func6, rfl, rfl, rfl, by kernel_rfl, by decide⟩
theorem fok7 : FOK Tryz.prog cfg 7 fi7 := ⟨Tryz.f7, Tryz.func7, rfl, rfl, rfl, by kernel_rfl, by decide⟩
theorem fok8 : FOK Tryz.prog cfg 8 fi8 := ⟨Tryz.f8, Tryz.func8, rfl, rfl, rfl, by kernel_rfl, by decide⟩
theorem fok9 : FOK Tryz.prog cfg 9 fi9 := ⟨Tryz.f9, Tryz.func9, rfl, rfl, rfl, by kernel_rfl, by decide⟩
theorem fok10 : FOK Tryz.prog cfg 10 fi10 := ⟨Tryz.f10, Tryz.func10, rfl, rfl, rfl, by kernel_rfl, by decide⟩
theorem fok11 : FOK Tryz.prog cfg 11 fi11 := ⟨Tryz.f11, Tryz.func11, rfl, rfl, rfl, by kernel_rfl, by decide⟩
theorem fok12 : FOK Tryz.prog cfg 12 fi12 := ⟨Tryz.f12, Tryz.func12, rfl, rfl, rfl, by kernel_rfl, by decide⟩
theorem fok13 : FOK Tryz.prog cfg 13 fi13 := ⟨Tryz.f13, Tryz.func13, rfl, rfl, rfl, by kernel_rfl, by decide⟩
theorem fok14 : FOK Tryz.prog cfg 14 fi14 := ⟨Tryz.f14, Tryz.func14, rfl, rfl, rfl, by kernel_rfl, by decide⟩
theorem fok15 : FOK Tryz.prog cfg 15 fi15 := ⟨Tryz.f15, Tryz.func15, rfl, rfl, rfl, by kernel_rfl, by decide⟩
theorem fok16 : FOK Tryz.prog cfg 16 fi16 := ⟨Tryz.f16, Tryz.func16, rfl, rfl, rfl, by kernel_rfl, by decide⟩
theorem fok17 : FOK Tryz.prog cfg 17 fi17 := ⟨Tryz.f17, Tryz.func17, rfl, rfl, rfl, by kernel_rfl, by decide⟩
theorem fok18 : FOK Tryz.prog cfg 18 fi18 := ⟨Tryz.f18, Tryz.func18, rfl, rfl, rfl, by kernel_rfl, by decide⟩
theorem fok19 : FOK Tryz.prog cfg 19 fi19 := ⟨Tryz.f19, Tryz.func19, rfl, rfl, rfl, by kernel_rfl, by decide⟩
theorem fok20 : FOK Tryz.prog cfg 20 fi20 := ⟨Tryz.f20, Tryz.func20, rfl, rfl, rfl, by kernel_rfl, by decide⟩
theorem fok21 : FOK Tryz.prog cfg 21 fi21 := ⟨Tryz.f21, Tryz.func21, rfl, rfl, rfl, by kernel_rfl, by decide⟩
theorem fok22 : FOK Tryz.prog cfg 22 fi22 := ⟨Tryz.f22, Tryz.func22, rfl, rfl, rfl, by kernel_rfl, by decide⟩
theorem fok23 : FOK Tryz.prog cfg 23 fi23 := ⟨Tryz.f23, Tryz.func23, rfl, rfl, rfl, by kernel_rfl, by decide⟩
theorem fok24 : FOK Tryz.prog cfg 24 fi24 := ⟨Tryz.f24, Tryz.func24, rfl, rfl, rfl, by kernel_rfl, by decide⟩
theorem fok25 : FOK Tryz.prog cfg 25 fi25 := ⟨Tryz.f25, Tryz.func25, rfl, rfl, rfl, by kernel_rfl, by decide⟩
theorem fok26 : FOK Tryz.prog cfg 26 fi26 := ⟨Tryz.f26, Tryz.func26, rfl, rfl, rfl, by kernel_rfl, by decide⟩
theorem fok27 : FOK Tryz.prog cfg 27 fi27 := ⟨Tryz.f27, Tryz.func27, rfl, rfl, rfl, by kernel_rfl, by decide⟩
theorem fok28 : FOK Tryz.prog cfg 28 fi28 := ⟨Tryz.f28, Tryz.func28, rfl, rfl, rfl, by kernel_rfl, by decide⟩
theorem fok29 : FOK Tryz.prog cfg 29 fi29 := ⟨Tryz.f29, Tryz.func29, rfl, rfl, rfl, by kernel_rfl, by decide⟩
theorem fok30 : FOK Tryz.prog cfg 30 fi30 := ⟨Tryz.f30, Tryz.func30, rfl, rfl, rfl, by kernel_rfl, by decide⟩
theorem fok31 : FOK Tryz.prog cfg 31 fi31 := ⟨Tryz.f31, Tryz.func31, rfl, rfl, rfl, by kernel_rfl, by decide⟩
theorem fok32 : FOK Tryz.prog cfg 32 fi32 := ⟨Tryz.f32, Tryz.func32, rfl, rfl, rfl, by kernel_rfl, by decide⟩
theorem fok33 : FOK Tryz.prog cfg 33 fi33 := ⟨Tryz.f33, Tryz.func33, rfl, rfl, rfl, by kernel_rfl, by decide⟩
theorem fok34 : FOK Tryz.prog cfg 34 fi34 := ⟨Tryz.f34, Tryz.func34, rfl, rfl, rfl, by kernel_rfl, by decide⟩
theorem fok35 : FOK Tryz.prog cfg 35 fi35 := ⟨Tryz.f35, Tryz.func35, rfl, rfl, rfl, by kernel_rfl, by decide⟩
theorem fok36 : FOK Tryz.prog cfg 36 fi36 := ⟨Tryz.f36, Tryz.func36, rfl, rfl, rfl, by kernel_rfl, by decide⟩
theorem fok37 : FOK Tryz.prog cfg 37 fi37 := ⟨Tryz.f37, Tryz.func37, rfl, rfl, rfl, by kernel_rfl, by decide⟩
theorem fok38 : FOK Tryz.prog cfg 38 fi38 := ⟨Tryz.f38, Tryz.func38, rfl, rfl, rfl, by kernel_rfl, by decide⟩
theorem fok39 : FOK Tryz.prog cfg 39 fi39 := ⟨Tryz.f39, Tryz.func39, rfl, rfl, rfl, by kernel_rfl, by decide⟩
theorem fok40 : FOK Tryz.prog cfg 40 fi40 := ⟨Tryz.f40, Tryz.func40, rfl, rfl, rfl, by kernel_rfl, by decide⟩
theorem fok41 : FOK Tryz.prog cfg 41 fi41 := ⟨Tryz.f41, Tryz.func41, rfl, rfl, rfl, by kernel_rfl, by decide⟩
theorem fok42 : FOK Tryz.prog cfg 42 fi42 := ⟨Tryz.f42, Tryz.func42, rfl, rfl, rfl, by kernel_rfl, by decide⟩
theorem fok43 : FOK Tryz.prog cfg 43 fi43 := ⟨Tryz.f43, Tryz.func43, rfl, rfl, rfl, by kernel_rfl, by decide⟩
theorem fok44 : FOK Tryz.prog cfg 44 fi44 := ⟨Tryz.f44, Tryz.func44, rfl, rfl, rfl, by kernel_rfl, by decide⟩
theorem fok45 : FOK Tryz.prog cfg 45 fi45 := ⟨Tryz.f45, Tryz.func45, rfl, rfl, rfl, by kernel_rfl, by decide⟩
theorem fok46 : FOK Tryz.prog cfg 46 fi46 := ⟨Tryz.f46, Tryz.func46, rfl, rfl, rfl, by kernel_rfl, by decide⟩
theorem fok47 : FOK Tryz.prog cfg 47 fi47 := ⟨Tryz.f47, Tryz.func47, rfl, rfl, rfl, by kernel_rfl, by decide⟩
theorem fok48 : FOK Tryz.prog cfg 48 fi48 := ⟨Tryz.f48, Tryz.func48, rfl, rfl, rfl, by kernel_rfl, by decide⟩
theorem fok49 : FOK Tryz.prog cfg 49 fi49 := ⟨Tryz.f49, Tryz.func49, rfl, rfl, rfl, by kernel_rfl, by decide⟩
theorem fok50 : FOK Tryz.prog cfg 50 fi50 := ⟨Tryz.f50, Tryz.func50, rfl, rfl, rfl, by kernel_rfl, by decide⟩
theorem fok51 : FOK Tryz.prog cfg 51 fi51 := ⟨Tryz.f51, Tryz.func51, rfl, rfl, rfl, by kernel_rfl, by decide⟩
theorem fok52 : FOK Tryz.prog cfg 52 fi52 := ⟨Tryz.f52, Tryz.func52, rfl, rfl, rfl, by kernel_rfl, by decide⟩
theorem fok53 : FOK Tryz.prog cfg 53 fi53 := ⟨Tryz.f53, Tryz.func53, rfl, rfl, rfl, by kernel_rfl, by decide⟩
theorem fok54 : FOK Tryz.prog cfg 54 fi54 := ⟨Tryz.f54, Tryz.func54, rfl, rfl, rfl, by kernel_rfl, by decide⟩
theorem fok55 : FOK Tryz.prog cfg 55 fi55 := ⟨Tryz.f55, Tryz.func55, rfl, rfl, rfl, by kernel_rfl, by decide⟩
theorem fok56 : FOK Tryz.prog cfg 56 fi56 := ⟨Tryz.f56, Tryz.func56, rfl, rfl, rfl, by kernel_rfl, by decide⟩
theorem fok57 : FOK Tryz.prog cfg 57 fi57 := ⟨Tryz.f57, Tryz.func57, rfl, rfl, rfl, by kernel_rfl, by decide⟩
theorem fok58 : FOK Tryz.prog cfg 58 fi58 := ⟨Tryz.f58, Tryz.func58, rfl, rfl, rfl, by kernel_rfl, by decide⟩
theorem fok59 : FOK Tryz.prog cfg 59 fi59 := ⟨Tryz.f59, Tryz.func59, rfl, rfl, rfl, by kernel_rfl, by decide⟩
theorem fok60 : FOK Tryz.prog cfg 60 fi60 := ⟨Tryz.f60, Tryz.func60, rfl, rfl, rfl, by kernel_rfl, by decide⟩
theorem fok61 : FOK Tryz.prog cfg 61 fi61 := ⟨Tryz.f61, Tryz.func61, rfl, rfl, rfl, by kernel_rfl, by decide⟩
theorem fok62 : FOK Tryz.prog cfg 62 fi62 := ⟨Tryz.f62, Tryz.func62, rfl, rfl, rfl, by kernel_rfl, by decide⟩
theorem fok63 : FOK Tryz.prog cfg 63 fi63 := ⟨Tryz.f63, Tryz.func63, rfl, rfl, rfl, by kernel_rfl, by decide⟩
theorem fok64 : FOK Tryz.prog cfg 64 fi64 := ⟨Tryz.f64, Tryz.func64, rfl, rfl, rfl, by kernel_rfl, by decide⟩
theorem fok65 : FOK Tryz.prog cfg 65 fi65 := ⟨Tryz.f65, Tryz.func65, rfl, rfl, rfl, by kernel_rfl, by decide⟩
theorem fok66 : FOK Tryz.prog cfg 66 fi66 := ⟨Tryz.f66, Tryz.func66, rfl, rfl, rfl, by kernel_rfl, by decide⟩
theorem fok67 : FOK Tryz.prog cfg 67 fi67 := ⟨Tryz.f67, Tryz.func67, rfl, rfl, rfl, by kernel_rfl, by decide⟩
theorem fok68 : FOK Tryz.prog cfg 68 fi68 := ⟨Tryz.f68, Tryz.func68, rfl, rfl, rfl, by kernel_rfl, by decide⟩
theorem fok69 : FOK Tryz.prog cfg 69 fi69 := ⟨Tryz.f69, Tryz.func69, rfl, rfl, rfl, by kernel_rfl, by decide⟩
theorem fok70 : FOK Tryz.prog cfg 70 fi70 := ⟨Tryz.f70, Tryz.func70, rfl, rfl, rfl, by kernel_rfl, by decide⟩
theorem fok71 : FOK Tryz.prog cfg 71 fi71 := ⟨Tryz.f71, Tryz.func71, rfl, rfl, rfl, by kernel_rfl, by decide⟩
theorem fok72 : FOK Tryz.prog cfg 72 fi72 := ⟨Tryz.f72, Tryz.func72, rfl, rfl, rfl, by kernel_rfl, by decide⟩
theorem fok73 : FOK Tryz.prog cfg 73 fi73 := ⟨Tryz.f73, Tryz.func73, rfl, rfl, rfl, by kernel_rfl, by decide⟩
theorem fok74 : FOK Tryz.prog cfg 74 fi74 := ⟨Tryz.f74, Tryz.func74, rfl, rfl, rfl, by kernel_rfl, by decide⟩
theorem fok75 : FOK Tryz.prog cfg 75 fi75 := ⟨Tryz.f75, Tryz.func75, rfl, rfl, rfl, by kernel_rfl, by decide⟩
theorem fok77 : FOK Tryz.prog cfg 77 fi77 := ⟨Tryz.f77, Tryz.func77, rfl, rfl, rfl, by kernel_rfl, by decide⟩
theorem fok78 : FOK Tryz.prog cfg 78 fi78 := ⟨Tryz.f78, Tryz.func78, rfl, rfl, rfl, by kernel_rfl, by decide⟩
theorem fok79 : FOK Tryz.prog cfg 79 fi79 := ⟨Tryz.f79, Tryz.func79, rfl, rfl, rfl, by kernel_rfl, by decide⟩
theorem fok81 : FOK Tryz.prog cfg 81 fi81 := ⟨Tryz.f81, Tryz.func81, rfl, rfl, rfl, by kernel_rfl, by decide⟩
theorem fok82 : FOK Tryz.prog cfg 82 fi82 := ⟨Tryz.f82, Tryz.func82, rfl, rfl, rfl, by kernel_rfl, by decide⟩
theorem fok83 : FOK Tryz.prog cfg 83 fi83 := ⟨Tryz.f83, Tryz.func83, rfl, rfl, rfl, by kernel_rfl, by decide⟩
theorem fok84 : FOK Tryz.prog cfg 84 fi84 := ⟨Tryz.f84, Tryz.func84, rfl, rfl, rfl, by kernel_rfl, by decide⟩
theorem fok85 : FOK Tryz.prog cfg 85 fi85 := ⟨Tryz.f85, Tryz.func85, rfl, rfl, rfl, by kernel_rfl, by decide⟩
theorem fok86 : FOK Tryz.prog cfg 86 fi86 := ⟨Tryz.f86, Tryz.func86, rfl, rfl, rfl, by kernel_rfl, by decide⟩
theorem fok87 : FOK Tryz.prog cfg 87 fi87 := ⟨Tryz.f87, Tryz.func87, rfl, rfl, rfl, by kernel_rfl, by decide⟩
theorem fok88 : FOK Tryz.prog cfg 88 fi88 := ⟨Tryz.f88, Tryz.func88, rfl, rfl, rfl, by kernel_rfl, by decide⟩
theorem fok89 : FOK Tryz.prog cfg 89 fi89 := ⟨Tryz.f89, Tryz.func89, rfl, rfl, rfl, by kernel_rfl, by decide⟩
theorem fok90 : FOK Tryz.prog cfg 90 fi90 := ⟨Tryz.f90, Tryz.func90, rfl, rfl, rfl, by kernel_rfl, by decide⟩
theorem fok91 : FOK Tryz.prog cfg 91 fi91 := ⟨Tryz.f91, Tryz.func91, rfl, rfl, rfl, by kernel_rfl, by decide⟩
theorem fok92 : FOK Tryz.prog cfg 92 fi92 := ⟨Tryz.f92, Tryz.func92, rfl, rfl, rfl, by kernel_rfl, by decide⟩
theorem fok93 : FOK Tryz.prog cfg 93 fi93 := ⟨Tryz.f93, Tryz.func93, rfl, rfl, rfl, by kernel_rfl, by decide⟩
theorem fok94 : FOK Tryz.prog cfg 94 fi94 := ⟨Tryz.f94, Tryz.func94, rfl, rfl, rfl, by kernel_rfl, by decide⟩
theorem fok95 : FOK Tryz.prog cfg 95 fi95 := ⟨Tryz.f95, Tryz.func95, rfl, rfl, rfl, by kernel_rfl, by decide⟩
theorem fok96 : FOK Tryz.prog cfg 96 fi96 := ⟨Tryz.f96, Tryz.func96, rfl, rfl, rfl, by kernel_rfl, by decide⟩
theorem fok97 : FOK Tryz.prog cfg 97 fi97 := ⟨Tryz.f97, Tryz.func97, rfl, rfl, rfl, by kernel_rfl, by decide⟩
theorem fok98 : FOK Tryz.prog cfg 98 fi98 := ⟨Tryz.f98, Tryz.func98, rfl, rfl, rfl, by kernel_rfl, by decide⟩
theorem fok99 : FOK Tryz.prog cfg 99 fi99 := ⟨Tryz.f99, Tryz.func99, rfl, rfl, rfl, by kernel_rfl, by decide⟩
theorem fok100 : FOK Tryz.prog cfg 100 fi100 := ⟨Tryz.f100, Tryz.func100, rfl, rfl, rfl, by kernel_rfl, by decide⟩
theorem fok101 : FOK Tryz.prog cfg 101 fi101 := ⟨Tryz.f101, Tryz.func101, rfl, rfl, rfl, by kernel_rfl, by decide⟩
theorem fok102 : FOK Tryz.prog cfg 102 fi102 := ⟨Tryz.f102, Tryz.func102, rfl, rfl, rfl, by kernel_rfl, by decide⟩
theorem fok103 : FOK Tryz.prog cfg 103 fi103 := ⟨Tryz.f103, Tryz.func103, rfl, rfl, rfl, by kernel_rfl, by decide⟩
theorem fok104 : FOK Tryz.prog cfg 104 fi104 := ⟨Tryz.f104, Tryz.func104, rfl, rfl, rfl, by kernel_rfl, by decide⟩
theorem fok105 : FOK Tryz.prog cfg 105 fi105 := ⟨Tryz.f105, Tryz.func105, rfl, rfl, rfl, by kernel_rfl, by decide⟩
theorem fok106 : FOK Tryz.prog cfg 106 fi106 := ⟨Tryz.f106, Tryz.func106, rfl, rfl, rfl, by kernel_rfl, by decide⟩
theorem fok107 : FOK Tryz.prog cfg 107 fi107 := ⟨Tryz.f107, Tryz.func107, rfl, rfl, rfl, by kernel_rfl, by decide⟩
theorem fok108 : FOK Tryz.prog cfg 108 fi108 := ⟨Tryz.f108, Tryz.func108, rfl, rfl, rfl, by kernel_rfl, by decide⟩
theorem fok109 : FOK Tryz.prog cfg 109 fi109 := ⟨Tryz.f109, Tryz.func109, rfl, rfl, rfl, by kernel_rfl, by decide⟩
theorem fok110 : FOK Tryz.prog cfg 110 fi110 := ⟨Tryz.f110, Tryz.func110, rfl, rfl, rfl, by kernel_rfl, by decide⟩
theorem fok111 : FOK Tryz.prog cfg 111 fi111 := ⟨Tryz.f111, Tryz.func111, rfl, rfl, rfl, by kernel_rfl, by decide⟩
theorem fok112 : FOK Tryz.prog cfg 112 fi112 := ⟨Tryz.f112, Tryz.func112, rfl, rfl, rfl, by kernel_rfl, by decide⟩
theorem fok113 : FOK Tryz.prog cfg 113 fi113 := ⟨Tryz.f113, Tryz.func113, rfl, rfl, rfl, by kernel_rfl, by decide⟩
theorem fok115 : FOK Tryz.prog cfg 115 fi115 := ⟨Tryz.f115, Tryz.func115, rfl, rfl, rfl, by kernel_rfl, by decide⟩
theorem fok116 : FOK Tryz.prog cfg 116 fi116 := ⟨Tryz.f116, Tryz.func116, rfl, rfl, rfl, by kernel_rfl, by decide⟩
theorem fok117 : FOK Tryz.prog cfg 117 fi117 := ⟨Tryz.f117, Tryz.func117, rfl, rfl, rfl, by kernel_rfl, by decide⟩
theorem fok118 : FOK Tryz.prog cfg 118 fi118 := ⟨Tryz.f118, Tryz.func118, rfl, rfl, rfl, by kernel_rfl, by decide⟩
theorem fok119 : FOK Tryz.prog cfg 119 fi119 := ⟨Tryz.f119, Tryz.func119, rfl, rfl, rfl, by kernel_rfl, by decide⟩
theorem fok120 : FOK Tryz.prog cfg 120 fi120 := ⟨Tryz.f120, Tryz.func120, rfl, rfl, rfl, by kernel_rfl, by decide⟩
theorem fok121 : FOK Tryz.prog cfg 121 fi121 := ⟨Tryz.f121, Tryz.func121, rfl, rfl, rfl, by kernel_rfl, by decide⟩
theorem fok122 : FOK Tryz.prog cfg 122 fi122 := ⟨Tryz.f122, Tryz.func122, rfl, rfl, rfl, by kernel_rfl, by decide⟩
theorem fok123 : FOK Tryz.prog cfg 123 fi123 := ⟨Tryz.f123, Tryz.func123, rfl, rfl, rfl, by kernel_rfl, by decide⟩
theorem fok124 : FOK Tryz.prog cfg 124 fi124 := ⟨Tryz.f124, Tryz.func124, rfl, rfl, rfl, by kernel_rfl, by decide⟩
theorem fok126 : FOK Tryz.prog cfg 126 fi126 := ⟨Tryz.f126, Tryz.func126, rfl, rfl, rfl, by kernel_rfl, by decide⟩
theorem fok127 : FOK Tryz.prog cfg 127 fi127 := ⟨Tryz.f127, Tryz.func127, rfl, rfl, rfl, by kernel_rfl, by decide⟩
theorem fok128 : FOK Tryz.prog cfg 128 fi128 := ⟨Tryz.f128, Tryz.func128, rfl, rfl, rfl, by kernel_rfl, by decide⟩
theorem fok129 : FOK Tryz.prog cfg 129 fi129 := ⟨Tryz.f129, Tryz.func129, rfl, rfl, rfl, by kernel_rfl, by decide⟩
theorem fok130 : FOK Tryz.prog cfg 130 fi130 := ⟨Tryz.f130, Tryz.func130, rfl, rfl, rfl, by kernel_rfl, by decide⟩
theorem fok131 : FOK Tryz.prog cfg 131 fi131 := ⟨Tryz.f131, Tryz.func131, rfl, rfl, rfl, by kernel_rfl, by decide⟩
theorem fok132 : FOK Tryz.prog cfg 132 fi132 := ⟨Tryz.f132, Tryz.func132, rfl, rfl, rfl, by kernel_rfl, by decide⟩
theorem fok133 : FOK Tryz.prog cfg 133 fi133 := ⟨Tryz.f133, Tryz.func133, rfl, rfl, rfl, by kernel_rfl, by decide⟩
theorem fok134 : FOK Tryz.prog cfg 134 fi134 := ⟨Tryz.f134, Tryz.func134, rfl, rfl, rfl, by kernel_rfl, by decide⟩
theorem cok : COK BT0 Tryz.prog cfg where
  T := look_ok types_ok
  fn := lookF_ok (fun p hp => by
    simp only [fns, List.mem_cons, List.not_mem_nil, or_false] at hp
    rcases hp with rfl | rfl | rfl | rfl | rfl | rfl | rfl | rfl | rfl | rfl | rfl | rfl | rfl | rfl | rfl | rfl | rfl | rfl | rfl | rfl | rfl | rfl | rfl | rfl | rfl | rfl | rfl | rfl | rfl | rfl | rfl | rfl | rfl | rfl | rfl | rfl | rfl | rfl | rfl | rfl | rfl | rfl | rfl | rfl | rfl | rfl | rfl | rfl | rfl | rfl | rfl | rfl | rfl | rfl | rfl | rfl | rfl | rfl | rfl | rfl | rfl | rfl | rfl | rfl | rfl | rfl | rfl | rfl | rfl | rfl | rfl | rfl | rfl | rfl | rfl | rfl | rfl | rfl | rfl | rfl | rfl | rfl | rfl | rfl | rfl | rfl | rfl | rfl | rfl | rfl | rfl | rfl | rfl | rfl | rfl | rfl | rfl | rfl | rfl | rfl | rfl | rfl | rfl | rfl | rfl | rfl | rfl | rfl | rfl | rfl | rfl | rfl | rfl | rfl | rfl | rfl | rfl | rfl | rfl | rfl | rfl | rfl | rfl | rfl | rfl | rfl | rfl | rfl
    · exact fok3
    · exact fok4
    · exact fok5
    · exact fok6
    · exact fok7
    · exact fok8
    · exact fok9
    · exact fok10
    · exact fok11
    · exact fok12
    · exact fok13
    · exact fok14
    · exact fok15
    · exact fok16
    · exact fok17
    · exact fok18
    · exact fok19
    · exact fok20
    · exact fok21
    · exact fok22
    · exact fok23
    · exact fok24
    · exact fok25
    · exact fok26
    · exact fok27
    · exact fok28
    · exact fok29
    · exact fok30
    · exact fok31
    · exact fok32
    · exact fok33
    · exact fok34
    · exact fok35
    · exact fok36
    · exact fok37
    · exact fok38
    · exact fok39
    · exact fok40
    · exact fok41
    · exact fok42
    · exact fok43
    · exact fok44
    · exact fok45
    · exact fok46
    · exact fok47
    · exact fok48
    · exact fok49
    · exact fok50
    · exact fok51
    · exact fok52
    · exact fok53
    · exact fok54
    · exact fok55
    · exact fok56
    · exact fok57
    · exact fok58
    · exact fok59
    · exact fok60
    · exact fok61
    · exact fok62
    · exact fok63
    · exact fok64
    · exact fok65
    · exact fok66
    · exact fok67
    · exact fok68
    · exact fok69
    · exact fok70
    · exact fok71
    · exact fok72
    · exact fok73
    · exact fok74
    · exact fok75
    · exact fok77
    · exact fok78
    · exact fok79
    · exact fok81
    · exact fok82
    · exact fok83
    · exact fok84
    · exact fok85
    · exact fok86
    · exact fok87
    · exact fok88
    · exact fok89
    · exact fok90
    · exact fok91
    · exact fok92
    · exact fok93
    · exact fok94
    · exact fok95
    · exact fok96
    · exact fok97
    · exact fok98
    · exact fok99
    · exact fok100
    · exact fok101
    · exact fok102
    · exact fok103
    · exact fok104
    · exact fok105
    · exact fok106
    · exact fok107
    · exact fok108
    · exact fok109
    · exact fok110
    · exact fok111
    · exact fok112
    · exact fok113
    · exact fok115
    · exact fok116
    · exact fok117
    · exact fok118
    · exact fok119
    · exact fok120
    · exact fok121
    · exact fok122
    · exact fok123
    · exact fok124
    · exact fok126
    · exact fok127
    · exact fok128
    · exact fok129
    · exact fok130
    · exact fok131
    · exact fok132
    · exact fok133
    · exact fok134)
  given := fun f g h => by
    simp only [cfg, givens] at h
    split at h
    · rename_i e; subst e; cases h; exact given_bWrite
    split at h
    · rename_i e; subst e; cases h; exact given_bString
    cases h
  meth := fun t m f d h => by cases h
  mixed := by kernel_rfl
end Go.Proofs.YtfkgdlfponfimaaGreat.X
