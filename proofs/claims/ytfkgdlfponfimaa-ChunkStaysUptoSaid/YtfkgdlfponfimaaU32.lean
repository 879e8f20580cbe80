import Derived.Test.YtfkgdlfponfimaaProg
import Derived.Test.YtfkgdlfponfimaaU21
import Derived.Test.YtfkgdlfponfimaaU23
import Derived.Test.YtfkgdlfponfimaaU22
import Derived.Test.YtfkgdlfponfimaaU31
/- The configuration of the simple machine for this seat, written by a program of this claim's (xcfg.py). -/
set_option linter.unusedVariables false
set_option maxRecDepth 100000
namespace Go.Proofs.Ytfkgdlfponfimaa.X
open Go Go.RowKit
abbrev BT0 : BT := BTG
def types : List (TypeId × TI) := [
  (1, ⟨.func, 1, 8, .nilf⟩),
  (2, ⟨.int .i64, 1, 8, .int .i64 0⟩),
  (3, ⟨.int .i64, 1, 8, .int .i64 0⟩),
  (4, ⟨.bool, 1, 1, .bool false⟩),
  (5, ⟨.int .u8, 1, 1, .int .u8 0⟩),
  (9, ⟨.str, 1, 16, .str ⟨#[]⟩⟩),
  (12, ⟨.int .u64, 1, 8, .int .u64 0⟩),
  (15, ⟨.ptr, 1, 8, .nilp⟩),
  (16, ⟨.ptr, 1, 8, .nilp⟩),
  (17, ⟨.ptr, 1, 8, .nilp⟩),
  (20, ⟨.iface, 1, 16, .nili⟩),
  (21, ⟨.int .i32, 1, 4, .int .i32 0⟩),
  (22, ⟨.slice 51, 1, 24, .emp⟩),
  (23, ⟨.slice 126, 1, 24, .emp⟩),
  (24, ⟨.slice 55, 1, 24, .emp⟩),
  (25, ⟨.strct [(0, 22), (1, 23), (2, 24)], 3, 72, .agg [.emp, .emp, .emp]⟩),
  (26, ⟨.strct [(0, 22), (1, 23), (2, 24)], 3, 72, .agg [.emp, .emp, .emp]⟩),
  (27, ⟨.slice 28, 1, 24, .emp⟩),
  (28, ⟨.int .u64, 1, 8, .int .u64 0⟩),
  (29, ⟨.slice 35, 1, 24, .emp⟩),
  (30, ⟨.slice 39, 1, 24, .emp⟩),
  (31, ⟨.strct [(0, 26), (3, 27), (4, 28), (5, 29), (6, 30)], 7, 152, .agg [.emp, .emp, .emp, .emp, .int .u64 0, .emp, .emp]⟩),
  (32, ⟨.strct [(0, 26), (3, 27), (4, 28), (5, 29), (6, 30)], 7, 152, .agg [.emp, .emp, .emp, .emp, .int .u64 0, .emp, .emp]⟩),
  (33, ⟨.array 2 28, 2, 16, .agg [.int .u64 0, .int .u64 0]⟩),
  (34, ⟨.strct [(0, 28), (1, 28), (2, 28), (3, 28), (4, 28)], 5, 40, .agg [.int .u64 0, .int .u64 0, .int .u64 0, .int .u64 0, .int .u64 0]⟩),
  (35, ⟨.strct [(0, 28), (1, 28), (2, 28), (3, 28), (4, 28)], 5, 40, .agg [.int .u64 0, .int .u64 0, .int .u64 0, .int .u64 0, .int .u64 0]⟩),
  (36, ⟨.strct [(0, 3), (1, 35), (6, 28), (7, 28), (8, 28), (9, 28), (10, 9)], 11, 96, .agg [.int .i64 0, .int .u64 0, .int .u64 0, .int .u64 0, .int .u64 0, .int .u64 0, .int .u64 0, .int .u64 0, .int .u64 0, .int .u64 0, .str ⟨#[]⟩]⟩),
  (37, ⟨.strct [(0, 3), (1, 35), (6, 28), (7, 28), (8, 28), (9, 28), (10, 9)], 11, 96, .agg [.int .i64 0, .int .u64 0, .int .u64 0, .int .u64 0, .int .u64 0, .int .u64 0, .int .u64 0, .int .u64 0, .int .u64 0, .int .u64 0, .str ⟨#[]⟩]⟩),
  (38, ⟨.strct [(0, 28), (1, 28), (2, 37), (13, 9)], 14, 128, .agg [.int .u64 0, .int .u64 0, .int .i64 0, .int .u64 0, .int .u64 0, .int .u64 0, .int .u64 0, .int .u64 0, .int .u64 0, .int .u64 0, .int .u64 0, .int .u64 0, .str ⟨#[]⟩, .str ⟨#[]⟩]⟩),
  (39, ⟨.strct [(0, 28), (1, 28), (2, 37), (13, 9)], 14, 128, .agg [.int .u64 0, .int .u64 0, .int .i64 0, .int .u64 0, .int .u64 0, .int .u64 0, .int .u64 0, .int .u64 0, .int .u64 0, .int .u64 0, .int .u64 0, .int .u64 0, .str ⟨#[]⟩, .str ⟨#[]⟩]⟩),
  (40, ⟨.func, 1, 8, .nilf⟩),
  (41, ⟨.func, 1, 8, .nilf⟩),
  (42, ⟨.ptr, 1, 8, .nilp⟩),
  (43, ⟨.func, 1, 8, .nilf⟩),
  (44, ⟨.int .i64, 1, 8, .int .i64 0⟩),
  (46, ⟨.func, 1, 8, .nilf⟩),
  (47, ⟨.func, 1, 8, .nilf⟩),
  (48, ⟨.func, 1, 8, .nilf⟩),
  (49, ⟨.slice 9, 1, 24, .emp⟩),
  (50, ⟨.strct [(0, 28), (1, 28), (2, 28), (3, 3), (4, 49)], 5, 56, .agg [.int .u64 0, .int .u64 0, .int .u64 0, .int .i64 0, .emp]⟩),
  (51, ⟨.strct [(0, 28), (1, 28), (2, 28), (3, 3), (4, 49)], 5, 56, .agg [.int .u64 0, .int .u64 0, .int .u64 0, .int .i64 0, .emp]⟩),
  (52, ⟨.func, 1, 8, .nilf⟩),
  (53, ⟨.func, 1, 8, .nilf⟩),
  (54, ⟨.strct [(0, 28), (1, 28), (2, 28)], 3, 24, .agg [.int .u64 0, .int .u64 0, .int .u64 0]⟩),
  (55, ⟨.strct [(0, 28), (1, 28), (2, 28)], 3, 24, .agg [.int .u64 0, .int .u64 0, .int .u64 0]⟩),
  (56, ⟨.func, 1, 8, .nilf⟩),
  (57, ⟨.func, 1, 8, .nilf⟩),
  (59, ⟨.func, 1, 8, .nilf⟩),
  (60, ⟨.func, 1, 8, .nilf⟩),
  (61, ⟨.func, 1, 8, .nilf⟩),
  (62, ⟨.func, 1, 8, .nilf⟩),
  (63, ⟨.func, 1, 8, .nilf⟩),
  (64, ⟨.func, 1, 8, .nilf⟩),
  (65, ⟨.func, 1, 8, .nilf⟩),
  (66, ⟨.func, 1, 8, .nilf⟩),
  (68, ⟨.func, 1, 8, .nilf⟩),
  (69, ⟨.func, 1, 8, .nilf⟩),
  (70, ⟨.func, 1, 8, .nilf⟩),
  (71, ⟨.ptr, 1, 8, .nilp⟩),
  (72, ⟨.func, 1, 8, .nilf⟩),
  (73, ⟨.strct [(0, 42), (1, 28), (2, 26), (5, 37)], 16, 184, .agg [.nilp, .int .u64 0, .emp, .emp, .emp, .int .i64 0, .int .u64 0, .int .u64 0, .int .u64 0, .int .u64 0, .int .u64 0, .int .u64 0, .int .u64 0, .int .u64 0, .int .u64 0, .str ⟨#[]⟩]⟩),
  (74, ⟨.strct [(0, 42), (1, 28), (2, 26), (5, 37)], 16, 184, .agg [.nilp, .int .u64 0, .emp, .emp, .emp, .int .i64 0, .int .u64 0, .int .u64 0, .int .u64 0, .int .u64 0, .int .u64 0, .int .u64 0, .int .u64 0, .int .u64 0, .int .u64 0, .str ⟨#[]⟩]⟩),
  (75, ⟨.func, 1, 8, .nilf⟩),
  (76, ⟨.func, 1, 8, .nilf⟩),
  (77, ⟨.array 6 75, 6, 48, .agg [.nilf, .nilf, .nilf, .nilf, .nilf, .nilf]⟩),
  (79, ⟨.func, 1, 8, .nilf⟩),
  (80, ⟨.func, 1, 8, .nilf⟩),
  (81, ⟨.func, 1, 8, .nilf⟩),
  (82, ⟨.func, 1, 8, .nilf⟩),
  (83, ⟨.func, 1, 8, .nilf⟩),
  (85, ⟨.func, 1, 8, .nilf⟩),
  (87, ⟨.func, 1, 8, .nilf⟩),
  (89, ⟨.func, 1, 8, .nilf⟩),
  (91, ⟨.func, 1, 8, .nilf⟩),
  (92, ⟨.ptr, 1, 8, .nilp⟩),
  (93, ⟨.slice 5, 1, 24, .emp⟩),
  (94, ⟨.strct [(0, 92), (1, 93)], 2, 32, .agg [.nilp, .emp]⟩),
  (95, ⟨.bld, 2, 32, .agg [.nilp, .emp]⟩),
  (96, ⟨.iface, 1, 16, .nili⟩),
  (97, ⟨.iface, 1, 16, .nili⟩),
  (99, ⟨.func, 1, 8, .nilf⟩),
  (100, ⟨.func, 1, 8, .nilf⟩),
  (101, ⟨.func, 1, 8, .nilf⟩),
  (102, ⟨.func, 1, 8, .nilf⟩),
  (103, ⟨.func, 1, 8, .nilf⟩),
  (104, ⟨.func, 1, 8, .nilf⟩),
  (105, ⟨.func, 1, 8, .nilf⟩),
  (107, ⟨.func, 1, 8, .nilf⟩),
  (109, ⟨.func, 1, 8, .nilf⟩),
  (111, ⟨.func, 1, 8, .nilf⟩),
  (112, ⟨.func, 1, 8, .nilf⟩),
  (113, ⟨.func, 1, 8, .nilf⟩),
  (114, ⟨.func, 1, 8, .nilf⟩),
  (115, ⟨.func, 1, 8, .nilf⟩),
  (116, ⟨.map 28 3, 1, 8, .nilm⟩),
  (117, ⟨.map 9 28, 1, 8, .nilm⟩),
  (118, ⟨.map 157 28, 1, 8, .nilm⟩),
  (119, ⟨.map 192 28, 1, 8, .nilm⟩),
  (120, ⟨.map 194 3, 1, 8, .nilm⟩),
  (121, ⟨.strct [(0, 27), (1, 3), (2, 4), (3, 116), (4, 116), (5, 117), (6, 118), (7, 119), (8, 120), (9, 49)], 10, 112, .agg [.emp, .int .i64 0, .bool false, .nilm, .nilm, .nilm, .nilm, .nilm, .nilm, .emp]⟩),
  (122, ⟨.strct [(0, 27), (1, 3), (2, 4), (3, 116), (4, 116), (5, 117), (6, 118), (7, 119), (8, 120), (9, 49)], 10, 112, .agg [.emp, .int .i64 0, .bool false, .nilm, .nilm, .nilm, .nilm, .nilm, .nilm, .emp]⟩),
  (123, ⟨.func, 1, 8, .nilf⟩),
  (124, ⟨.func, 1, 8, .nilf⟩),
  (125, ⟨.strct [(0, 28), (1, 28), (2, 9)], 3, 32, .agg [.int .u64 0, .int .u64 0, .str ⟨#[]⟩]⟩),
  (126, ⟨.strct [(0, 28), (1, 28), (2, 9)], 3, 32, .agg [.int .u64 0, .int .u64 0, .str ⟨#[]⟩]⟩),
  (127, ⟨.func, 1, 8, .nilf⟩),
  (128, ⟨.func, 1, 8, .nilf⟩),
  (129, ⟨.func, 1, 8, .nilf⟩),
  (130, ⟨.func, 1, 8, .nilf⟩),
  (131, ⟨.func, 1, 8, .nilf⟩),
  (132, ⟨.ptr, 1, 8, .nilp⟩),
  (133, ⟨.ptr, 1, 8, .nilp⟩),
  (135, ⟨.func, 1, 8, .nilf⟩),
  (137, ⟨.func, 1, 8, .nilf⟩),
  (138, ⟨.func, 1, 8, .nilf⟩),
  (139, ⟨.func, 1, 8, .nilf⟩),
  (140, ⟨.func, 1, 8, .nilf⟩),
  (141, ⟨.func, 1, 8, .nilf⟩),
  (142, ⟨.func, 1, 8, .nilf⟩),
  (143, ⟨.func, 1, 8, .nilf⟩),
  (145, ⟨.func, 1, 8, .nilf⟩),
  (147, ⟨.func, 1, 8, .nilf⟩),
  (149, ⟨.func, 1, 8, .nilf⟩),
  (150, ⟨.ptr, 1, 8, .nilp⟩),
  (151, ⟨.slice 150, 1, 24, .emp⟩),
  (152, ⟨.func, 1, 8, .nilf⟩),
  (153, ⟨.ptr, 1, 8, .nilp⟩),
  (154, ⟨.func, 1, 8, .nilf⟩),
  (155, ⟨.func, 1, 8, .nilf⟩),
  (156, ⟨.strct [(0, 28), (1, 9)], 2, 24, .agg [.int .u64 0, .str ⟨#[]⟩]⟩),
  (157, ⟨.strct [(0, 28), (1, 9)], 2, 24, .agg [.int .u64 0, .str ⟨#[]⟩]⟩),
  (159, ⟨.func, 1, 8, .nilf⟩),
  (160, ⟨.int .u64, 1, 8, .int .u64 0⟩),
  (162, ⟨.func, 1, 8, .nilf⟩),
  (163, ⟨.func, 1, 8, .nilf⟩),
  (164, ⟨.func, 1, 8, .nilf⟩),
  (165, ⟨.func, 1, 8, .nilf⟩),
  (166, ⟨.func, 1, 8, .nilf⟩),
  (168, ⟨.func, 1, 8, .nilf⟩),
  (170, ⟨.func, 1, 8, .nilf⟩),
  (171, ⟨.int .u32, 1, 4, .int .u32 0⟩),
  (173, ⟨.func, 1, 8, .nilf⟩),
  (175, ⟨.func, 1, 8, .nilf⟩),
  (176, ⟨.func, 1, 8, .nilf⟩),
  (177, ⟨.func, 1, 8, .nilf⟩),
  (183, ⟨.func, 1, 8, .nilf⟩),
  (186, ⟨.func, 1, 8, .nilf⟩),
  (191, ⟨.strct [(0, 28), (1, 28), (2, 9), (3, 9)], 4, 48, .agg [.int .u64 0, .int .u64 0, .str ⟨#[]⟩, .str ⟨#[]⟩]⟩),
  (192, ⟨.strct [(0, 28), (1, 28), (2, 9), (3, 9)], 4, 48, .agg [.int .u64 0, .int .u64 0, .str ⟨#[]⟩, .str ⟨#[]⟩]⟩),
  (193, ⟨.strct [(0, 28), (1, 28), (2, 28), (3, 9)], 4, 40, .agg [.int .u64 0, .int .u64 0, .int .u64 0, .str ⟨#[]⟩]⟩),
  (194, ⟨.strct [(0, 28), (1, 28), (2, 28), (3, 9)], 4, 40, .agg [.int .u64 0, .int .u64 0, .int .u64 0, .str ⟨#[]⟩]⟩)]
noncomputable def b3 : Code := Try.f3.body.getD .skip
noncomputable def fi3 : FI := ⟨b3, 126, [.tmp 6], .pure⟩
noncomputable def b4 : Code := Try.f4.body.getD .skip
noncomputable def fi4 : FI := ⟨b4, 95, [.tmp 2], .pure⟩
noncomputable def b5 : Code := Try.f5.body.getD .skip
noncomputable def fi5 : FI := ⟨b5, 160, [.tmp 4], .pure⟩
noncomputable def b6 : Code := Try.f6.body.getD .skip
noncomputable def fi6 : FI := ⟨b6, 97, [.tmp 0], .pure⟩
noncomputable def b7 : Code := Try.f7.body.getD .skip
noncomputable def fi7 : FI := ⟨b7, 71, [.tmp 2], .pure⟩
noncomputable def b8 : Code := Try.f8.body.getD .skip
noncomputable def fi8 : FI := ⟨b8, 38, [.tmp 2], .keep⟩
noncomputable def b9 : Code := Try.f9.body.getD .skip
noncomputable def fi9 : FI := ⟨b9, 50, [.cell 8 26, .tmp 9, .tmp 10], .cast⟩
noncomputable def b10 : Code := Try.f10.body.getD .skip
noncomputable def fi10 : FI := ⟨b10, 22, [.tmp 4], .pure⟩
noncomputable def b11 : Code := Try.f11.body.getD .skip
noncomputable def fi11 : FI := ⟨b11, 47, [.cell 4 26], .keep⟩
noncomputable def b12 : Code := Try.f12.body.getD .skip
noncomputable def fi12 : FI := ⟨b12, 48, [.tmp 4], .pure⟩
noncomputable def b13 : Code := Try.f13.body.getD .skip
noncomputable def fi13 : FI := ⟨b13, 60, [.tmp 2], .pure⟩
noncomputable def b14 : Code := Try.f14.body.getD .skip
noncomputable def fi14 : FI := ⟨b14, 22, [.tmp 2], .borrow⟩
noncomputable def b15 : Code := Try.f15.body.getD .skip
noncomputable def fi15 : FI := ⟨b15, 83, [.cell 2 26, .tmp 3], .pure⟩
noncomputable def b16 : Code := Try.f16.body.getD .skip
noncomputable def fi16 : FI := ⟨b16, 52, [.tmp 2], .pure⟩
noncomputable def b17 : Code := Try.f17.body.getD .skip
noncomputable def fi17 : FI := ⟨b17, 80, [.cell 12 26, .tmp 13, .tmp 14], .cast⟩
noncomputable def b18 : Code := Try.f18.body.getD .skip
noncomputable def fi18 : FI := ⟨b18, 11, [.tmp 2], .pure⟩
noncomputable def b19 : Code := Try.f19.body.getD .skip
noncomputable def fi19 : FI := ⟨b19, 38, [.tmp 4], .pure⟩
noncomputable def b20 : Code := Try.f20.body.getD .skip
noncomputable def fi20 : FI := ⟨b20, 13, [.tmp 2], .keep⟩
noncomputable def b21 : Code := Try.f21.body.getD .skip
noncomputable def fi21 : FI := ⟨b21, 26, [.cell 12 35], .keep⟩
noncomputable def b22 : Code := Try.f22.body.getD .skip
noncomputable def fi22 : FI := ⟨b22, 21, [.cell 6 26, .tmp 7], .keep⟩
noncomputable def b23 : Code := Try.f23.body.getD .skip
noncomputable def fi23 : FI := ⟨b23, 13, [.tmp 2], .pure⟩
noncomputable def b24 : Code := Try.f24.body.getD .skip
noncomputable def fi24 : FI := ⟨b24, 37, [.tmp 2], .borrow⟩
noncomputable def b25 : Code := Try.f25.body.getD .skip
noncomputable def fi25 : FI := ⟨b25, 32, [.cell 2 26], .keep⟩
noncomputable def b26 : Code := Try.f26.body.getD .skip
noncomputable def fi26 : FI := ⟨b26, 72, [.tmp 2, .tmp 3], .keep⟩
noncomputable def b27 : Code := Try.f27.body.getD .skip
noncomputable def fi27 : FI := ⟨b27, 40, [.tmp 2, .tmp 3], .keep⟩
noncomputable def b28 : Code := Try.f28.body.getD .skip
noncomputable def fi28 : FI := ⟨b28, 32, [.tmp 2, .tmp 3], .keep⟩
noncomputable def b29 : Code := Try.f29.body.getD .skip
noncomputable def fi29 : FI := ⟨b29, 67, [.tmp 2, .tmp 3], .keep⟩
noncomputable def b30 : Code := Try.f30.body.getD .skip
noncomputable def fi30 : FI := ⟨b30, 19, [.tmp 2, .tmp 3], .keep⟩
noncomputable def b31 : Code := Try.f31.body.getD .skip
noncomputable def fi31 : FI := ⟨b31, 46, [.tmp 2, .tmp 3], .keep⟩
noncomputable def b32 : Code := Try.f32.body.getD .skip
noncomputable def fi32 : FI := ⟨b32, 39, [.cell 2 26], .cast⟩
noncomputable def b33 : Code := Try.f33.body.getD .skip
noncomputable def fi33 : FI := ⟨b33, 26, [.tmp 4], .pure⟩
noncomputable def b34 : Code := Try.f34.body.getD .skip
noncomputable def fi34 : FI := ⟨b34, 26, [.tmp 4], .pure⟩
noncomputable def b35 : Code := Try.f35.body.getD .skip
noncomputable def fi35 : FI := ⟨b35, 29, [.tmp 2], .borrow⟩
noncomputable def b36 : Code := Try.f36.body.getD .skip
noncomputable def fi36 : FI := ⟨b36, 22, [.tmp 2], .borrow⟩
noncomputable def b37 : Code := Try.f37.body.getD .skip
noncomputable def fi37 : FI := ⟨b37, 9, [.tmp 4], .borrow⟩
noncomputable def b38 : Code := Try.f38.body.getD .skip
noncomputable def fi38 : FI := ⟨b38, 9, [.tmp 4], .pure⟩
noncomputable def b39 : Code := Try.f39.body.getD .skip
noncomputable def fi39 : FI := ⟨b39, 6, [.tmp 2], .pure⟩
noncomputable def b40 : Code := Try.f40.body.getD .skip
noncomputable def fi40 : FI := ⟨b40, 20, [.tmp 4], .borrow⟩
noncomputable def b41 : Code := Try.f41.body.getD .skip
noncomputable def fi41 : FI := ⟨b41, 70, [.tmp 2, .tmp 3, .tmp 4], .pure⟩
noncomputable def b42 : Code := Try.f42.body.getD .skip
noncomputable def fi42 : FI := ⟨b42, 41, [.tmp 4, .tmp 5, .tmp 6], .pure⟩
noncomputable def b43 : Code := Try.f43.body.getD .skip
noncomputable def fi43 : FI := ⟨b43, 71, [.tmp 2, .tmp 3], .pure⟩
noncomputable def b44 : Code := Try.f44.body.getD .skip
noncomputable def fi44 : FI := ⟨b44, 59, [.tmp 2, .tmp 3], .pure⟩
noncomputable def b46 : Code := Try.f46.body.getD .skip
noncomputable def fi46 : FI := ⟨b46, 6, [.tmp 2], .pure⟩
noncomputable def b47 : Code := Try.f47.body.getD .skip
noncomputable def fi47 : FI := ⟨b47, 22, [.tmp 2], .pure⟩
noncomputable def b48 : Code := Try.f48.body.getD .skip
noncomputable def fi48 : FI := ⟨b48, 9, [.tmp 2], .pure⟩
noncomputable def b49 : Code := Try.f49.body.getD .skip
noncomputable def fi49 : FI := ⟨b49, 31, [.tmp 2], .pure⟩
noncomputable def b50 : Code := Try.f50.body.getD .skip
noncomputable def fi50 : FI := ⟨b50, 31, [.tmp 2], .pure⟩
noncomputable def b52 : Code := Try.f52.body.getD .skip
noncomputable def fi52 : FI := ⟨b52, 38, [.tmp 6, .tmp 7], .pure⟩
noncomputable def b53 : Code := Try.f53.body.getD .skip
noncomputable def fi53 : FI := ⟨b53, 27, [.tmp 2, .tmp 3], .pure⟩
noncomputable def b54 : Code := Try.f54.body.getD .skip
noncomputable def fi54 : FI := ⟨b54, 75, [.cell 2 37, .tmp 3], .pure⟩
noncomputable def b55 : Code := Try.f55.body.getD .skip
noncomputable def fi55 : FI := ⟨b55, 32, [.tmp 8], .cast⟩
noncomputable def b56 : Code := Try.f56.body.getD .skip
noncomputable def fi56 : FI := ⟨b56, 31, [.tmp 2], .pure⟩
noncomputable def b57 : Code := Try.f57.body.getD .skip
noncomputable def fi57 : FI := ⟨b57, 26, [.tmp 4], .pure⟩
noncomputable def b58 : Code := Try.f58.body.getD .skip
noncomputable def fi58 : FI := ⟨b58, 8, [.tmp 2], .clone⟩
noncomputable def b59 : Code := Try.f59.body.getD .skip
noncomputable def fi59 : FI := ⟨b59, 33, [.tmp 6], .keep⟩
noncomputable def b60 : Code := Try.f60.body.getD .skip
noncomputable def fi60 : FI := ⟨b60, 6, [.tmp 2], .pure⟩
noncomputable def b61 : Code := Try.f61.body.getD .skip
noncomputable def fi61 : FI := ⟨b61, 8, [.tmp 2], .clone⟩
noncomputable def b62 : Code := Try.f62.body.getD .skip
noncomputable def fi62 : FI := ⟨b62, 8, [.tmp 2], .clone⟩
noncomputable def b63 : Code := Try.f63.body.getD .skip
noncomputable def fi63 : FI := ⟨b63, 8, [.tmp 2], .clone⟩
noncomputable def b64 : Code := Try.f64.body.getD .skip
noncomputable def fi64 : FI := ⟨b64, 48, [.tmp 4], .pure⟩
noncomputable def b65 : Code := Try.f65.body.getD .skip
noncomputable def fi65 : FI := ⟨b65, 36, [.tmp 6, .tmp 7], .keep⟩
noncomputable def b66 : Code := Try.f66.body.getD .skip
noncomputable def fi66 : FI := ⟨b66, 106, [.tmp 4, .tmp 5, .tmp 6], .keep⟩
noncomputable def b67 : Code := Try.f67.body.getD .skip
noncomputable def fi67 : FI := ⟨b67, 43, [.tmp 6, .tmp 7], .keep⟩
noncomputable def b68 : Code := Try.f68.body.getD .skip
noncomputable def fi68 : FI := ⟨b68, 30, [.tmp 6, .tmp 7], .keep⟩
noncomputable def b69 : Code := Try.f69.body.getD .skip
noncomputable def fi69 : FI := ⟨b69, 9, [.tmp 4], .full⟩
noncomputable def b70 : Code := Try.f70.body.getD .skip
noncomputable def fi70 : FI := ⟨b70, 4, [.tmp 2], .keep⟩
noncomputable def b71 : Code := Try.f71.body.getD .skip
noncomputable def fi71 : FI := ⟨b71, 8, [.tmp 4], .borrow⟩
noncomputable def b72 : Code := Try.f72.body.getD .skip
noncomputable def fi72 : FI := ⟨b72, 19, [.tmp 4], .full⟩
noncomputable def b73 : Code := Try.f73.body.getD .skip
noncomputable def fi73 : FI := ⟨b73, 8, [.tmp 3], .full⟩
noncomputable def b74 : Code := Try.f74.body.getD .skip
noncomputable def fi74 : FI := ⟨b74, 19, [.tmp 4], .pure⟩
noncomputable def b75 : Code := Try.f75.body.getD .skip
noncomputable def fi75 : FI := ⟨b75, 44, [.tmp 2, .tmp 3, .tmp 4], .pure⟩
noncomputable def b76 : Code := Try.f76.body.getD .skip
noncomputable def fi76 : FI := ⟨b76, 30, [.tmp 4, .tmp 5, .tmp 6], .pure⟩
noncomputable def b77 : Code := Try.f77.body.getD .skip
noncomputable def fi77 : FI := ⟨b77, 41, [.tmp 4, .tmp 5, .tmp 6], .pure⟩
noncomputable def b79 : Code := Try.f79.body.getD .skip
noncomputable def fi79 : FI := ⟨b79, 20, [.tmp 4], .keep⟩
noncomputable def b80 : Code := Try.f80.body.getD .skip
noncomputable def fi80 : FI := ⟨b80, 19, [.tmp 4], .full⟩
noncomputable def b81 : Code := Try.f81.body.getD .skip
noncomputable def fi81 : FI := ⟨b81, 42, [.tmp 4], .keep⟩
noncomputable def b82 : Code := Try.f82.body.getD .skip
noncomputable def fi82 : FI := ⟨b82, 9, [.tmp 2], .pure⟩
noncomputable def b83 : Code := Try.f83.body.getD .skip
noncomputable def fi83 : FI := ⟨b83, 68, [.tmp 2], .keep⟩
noncomputable def b84 : Code := Try.f84.body.getD .skip
noncomputable def fi84 : FI := ⟨b84, 18, [.tmp 2], .pure⟩
noncomputable def b85 : Code := Try.f85.body.getD .skip
noncomputable def fi85 : FI := ⟨b85, 30, [.tmp 4, .tmp 5], .pure⟩
noncomputable def b86 : Code := Try.f86.body.getD .skip
noncomputable def fi86 : FI := ⟨b86, 38, [.tmp 12], .keep⟩
noncomputable def b87 : Code := Try.f87.body.getD .skip
noncomputable def fi87 : FI := ⟨b87, 16, [.tmp 6], .keep⟩
noncomputable def b88 : Code := Try.f88.body.getD .skip
noncomputable def fi88 : FI := ⟨b88, 8, [.tmp 3], .full⟩
noncomputable def b89 : Code := Try.f89.body.getD .skip
noncomputable def fi89 : FI := ⟨b89, 19, [.tmp 4], .full⟩
noncomputable def b90 : Code := Try.f90.body.getD .skip
noncomputable def fi90 : FI := ⟨b90, 8, [.tmp 3], .full⟩
noncomputable def b91 : Code := Try.f91.body.getD .skip
noncomputable def fi91 : FI := ⟨b91, 38, [.tmp 4, .tmp 5, .tmp 6], .pure⟩
noncomputable def b93 : Code := Try.f93.body.getD .skip
noncomputable def fi93 : FI := ⟨b93, 17, [.tmp 4, .tmp 5], .pure⟩
noncomputable def b94 : Code := Try.f94.body.getD .skip
noncomputable def fi94 : FI := ⟨b94, 51, [.tmp 4, .tmp 5], .pure⟩
noncomputable def b95 : Code := Try.f95.body.getD .skip
noncomputable def fi95 : FI := ⟨b95, 31, [.tmp 8], .keep⟩
noncomputable def b96 : Code := Try.f96.body.getD .skip
noncomputable def fi96 : FI := ⟨b96, 16, [], .keep⟩
noncomputable def fns : List (FuncId × FI) := [(3, fi3), (4, fi4), (5, fi5), (6, fi6), (7, fi7), (8, fi8), (9, fi9), (10, fi10), (11, fi11), (12, fi12), (13, fi13), (14, fi14), (15, fi15), (16, fi16), (17, fi17), (18, fi18), (19, fi19), (20, fi20), (21, fi21), (22, fi22), (23, fi23), (24, fi24), (25, fi25), (26, fi26), (27, fi27), (28, fi28), (29, fi29), (30, fi30), (31, fi31), (32, fi32), (33, fi33), (34, fi34), (35, fi35), (36, fi36), (37, fi37), (38, fi38), (39, fi39), (40, fi40), (41, fi41), (42, fi42), (43, fi43), (44, fi44), (46, fi46), (47, fi47), (48, fi48), (49, fi49), (50, fi50), (52, fi52), (53, fi53), (54, fi54), (55, fi55), (56, fi56), (57, fi57), (58, fi58), (59, fi59), (60, fi60), (61, fi61), (62, fi62), (63, fi63), (64, fi64), (65, fi65), (66, fi66), (67, fi67), (68, fi68), (69, fi69), (70, fi70), (71, fi71), (72, fi72), (73, fi73), (74, fi74), (75, fi75), (76, fi76), (77, fi77), (79, fi79), (80, fi80), (81, fi81), (82, fi82), (83, fi83), (84, fi84), (85, fi85), (86, fi86), (87, fi87), (88, fi88), (89, fi89), (90, fi90), (91, fi91), (93, fi93), (94, fi94), (95, fi95), (96, fi96)]
def givens (f : FuncId) : Option Given := if f = 45 then some .bWrite else if f = 51 then some .bString else none
def meths (t : TypeId) (m : String) : Option (FuncId × Option TypeId) := none
def flags (i n d : Nat) : List Tmp := bif Nat.beq i 1 && Nat.beq n 8 && Nat.beq d 11 then [7] else bif Nat.beq i 1 && Nat.beq n 9 && Nat.beq d 0 then [1] else bif Nat.beq i 1 && Nat.beq n 11 && Nat.beq d 0 then [1] else bif Nat.beq i 6 && Nat.beq n 21 && Nat.beq d 39 then [5] else []
noncomputable def cfg : Cfg := ⟨look types, lookF fns, givens, meths, flags⟩
theorem T1 : cfg.T 1 = some ⟨.func, 1, 8, .nilf⟩ := rfl
theorem T2 : cfg.T 2 = some ⟨.int .i64, 1, 8, .int .i64 0⟩ := rfl
theorem T3 : cfg.T 3 = some ⟨.int .i64, 1, 8, .int .i64 0⟩ := rfl
theorem T4 : cfg.T 4 = some ⟨.bool, 1, 1, .bool false⟩ := rfl
theorem T9 : cfg.T 9 = some ⟨.str, 1, 16, .str ⟨#[]⟩⟩ := rfl
theorem T22 : cfg.T 22 = some ⟨.slice 51, 1, 24, .emp⟩ := rfl
theorem T23 : cfg.T 23 = some ⟨.slice 126, 1, 24, .emp⟩ := rfl
theorem T24 : cfg.T 24 = some ⟨.slice 55, 1, 24, .emp⟩ := rfl
theorem T49 : cfg.T 49 = some ⟨.slice 9, 1, 24, .emp⟩ := rfl
theorem T51 : cfg.T 51 = some ⟨.strct [(0, 28), (1, 28), (2, 28), (3, 3), (4, 49)], 5, 56, .agg [.int .u64 0, .int .u64 0, .int .u64 0, .int .i64 0, .emp]⟩ := rfl
theorem T55 : cfg.T 55 = some ⟨.strct [(0, 28), (1, 28), (2, 28)], 3, 24, .agg [.int .u64 0, .int .u64 0, .int .u64 0]⟩ := rfl
theorem T126 : cfg.T 126 = some ⟨.strct [(0, 28), (1, 28), (2, 9)], 3, 32, .agg [.int .u64 0, .int .u64 0, .str ⟨#[]⟩]⟩ := rfl
theorem g3 : cfg.given 3 = none := rfl
theorem g4 : cfg.given 4 = none := rfl
theorem F5 : cfg.fn 5 = some fi5 := rfl
theorem g5 : cfg.given 5 = none := rfl
theorem F7 : cfg.fn 7 = some fi7 := rfl
theorem g7 : cfg.given 7 = none := rfl
theorem F8 : cfg.fn 8 = some fi8 := rfl
theorem g8 : cfg.given 8 = none := rfl
theorem F9 : cfg.fn 9 = some fi9 := rfl
theorem g9 : cfg.given 9 = none := rfl
theorem F10 : cfg.fn 10 = some fi10 := rfl
theorem g10 : cfg.given 10 = none := rfl
theorem F11 : cfg.fn 11 = some fi11 := rfl
theorem g11 : cfg.given 11 = none := rfl
theorem F12 : cfg.fn 12 = some fi12 := rfl
theorem g12 : cfg.given 12 = none := rfl
theorem F13 : cfg.fn 13 = some fi13 := rfl
theorem g13 : cfg.given 13 = none := rfl
theorem F14 : cfg.fn 14 = some fi14 := rfl
theorem g14 : cfg.given 14 = none := rfl
theorem F15 : cfg.fn 15 = some fi15 := rfl
theorem g15 : cfg.given 15 = none := rfl
theorem F16 : cfg.fn 16 = some fi16 := rfl
theorem g16 : cfg.given 16 = none := rfl
theorem F17 : cfg.fn 17 = some fi17 := rfl
theorem g17 : cfg.given 17 = none := rfl
theorem F18 : cfg.fn 18 = some fi18 := rfl
theorem g18 : cfg.given 18 = none := rfl
theorem F19 : cfg.fn 19 = some fi19 := rfl
theorem g19 : cfg.given 19 = none := rfl
theorem F20 : cfg.fn 20 = some fi20 := rfl
theorem g20 : cfg.given 20 = none := rfl
theorem F21 : cfg.fn 21 = some fi21 := rfl
theorem g21 : cfg.given 21 = none := rfl
theorem F24 : cfg.fn 24 = some fi24 := rfl
theorem g24 : cfg.given 24 = none := rfl
theorem F25 : cfg.fn 25 = some fi25 := rfl
theorem g25 : cfg.given 25 = none := rfl
theorem F26 : cfg.fn 26 = some fi26 := rfl
theorem g26 : cfg.given 26 = none := rfl
theorem F27 : cfg.fn 27 = some fi27 := rfl
theorem g27 : cfg.given 27 = none := rfl
theorem F28 : cfg.fn 28 = some fi28 := rfl
theorem g28 : cfg.given 28 = none := rfl
theorem F29 : cfg.fn 29 = some fi29 := rfl
theorem g29 : cfg.given 29 = none := rfl
theorem F30 : cfg.fn 30 = some fi30 := rfl
theorem g30 : cfg.given 30 = none := rfl
theorem F31 : cfg.fn 31 = some fi31 := rfl
theorem g31 : cfg.given 31 = none := rfl
theorem F32 : cfg.fn 32 = some fi32 := rfl
theorem g32 : cfg.given 32 = none := rfl
theorem F33 : cfg.fn 33 = some fi33 := rfl
theorem g33 : cfg.given 33 = none := rfl
theorem F34 : cfg.fn 34 = some fi34 := rfl
theorem g34 : cfg.given 34 = none := rfl
theorem F35 : cfg.fn 35 = some fi35 := rfl
theorem g35 : cfg.given 35 = none := rfl
theorem F36 : cfg.fn 36 = some fi36 := rfl
theorem g36 : cfg.given 36 = none := rfl
theorem F37 : cfg.fn 37 = some fi37 := rfl
theorem g37 : cfg.given 37 = none := rfl
theorem F38 : cfg.fn 38 = some fi38 := rfl
theorem g38 : cfg.given 38 = none := rfl
theorem F39 : cfg.fn 39 = some fi39 := rfl
theorem g39 : cfg.given 39 = none := rfl
theorem F40 : cfg.fn 40 = some fi40 := rfl
theorem g40 : cfg.given 40 = none := rfl
theorem F41 : cfg.fn 41 = some fi41 := rfl
theorem g41 : cfg.given 41 = none := rfl
theorem F42 : cfg.fn 42 = some fi42 := rfl
theorem g42 : cfg.given 42 = none := rfl
theorem F43 : cfg.fn 43 = some fi43 := rfl
theorem g43 : cfg.given 43 = none := rfl
theorem F44 : cfg.fn 44 = some fi44 := rfl
theorem g44 : cfg.given 44 = none := rfl
theorem F46 : cfg.fn 46 = some fi46 := rfl
theorem g46 : cfg.given 46 = none := rfl
theorem F47 : cfg.fn 47 = some fi47 := rfl
theorem g47 : cfg.given 47 = none := rfl
theorem F48 : cfg.fn 48 = some fi48 := rfl
theorem g48 : cfg.given 48 = none := rfl
theorem F49 : cfg.fn 49 = some fi49 := rfl
theorem g49 : cfg.given 49 = none := rfl
theorem F50 : cfg.fn 50 = some fi50 := rfl
theorem g50 : cfg.given 50 = none := rfl
theorem F52 : cfg.fn 52 = some fi52 := rfl
theorem g52 : cfg.given 52 = none := rfl
theorem F53 : cfg.fn 53 = some fi53 := rfl
theorem g53 : cfg.given 53 = none := rfl
theorem F54 : cfg.fn 54 = some fi54 := rfl
theorem g54 : cfg.given 54 = none := rfl
theorem F55 : cfg.fn 55 = some fi55 := rfl
theorem g55 : cfg.given 55 = none := rfl
theorem F56 : cfg.fn 56 = some fi56 := rfl
theorem g56 : cfg.given 56 = none := rfl
theorem F57 : cfg.fn 57 = some fi57 := rfl
theorem g57 : cfg.given 57 = none := rfl
theorem F58 : cfg.fn 58 = some fi58 := rfl
theorem g58 : cfg.given 58 = none := rfl
theorem F59 : cfg.fn 59 = some fi59 := rfl
theorem g59 : cfg.given 59 = none := rfl
theorem F60 : cfg.fn 60 = some fi60 := rfl
theorem g60 : cfg.given 60 = none := rfl
theorem F61 : cfg.fn 61 = some fi61 := rfl
theorem g61 : cfg.given 61 = none := rfl
theorem F62 : cfg.fn 62 = some fi62 := rfl
theorem g62 : cfg.given 62 = none := rfl
theorem F63 : cfg.fn 63 = some fi63 := rfl
theorem g63 : cfg.given 63 = none := rfl
theorem F64 : cfg.fn 64 = some fi64 := rfl
theorem g64 : cfg.given 64 = none := rfl
theorem F65 : cfg.fn 65 = some fi65 := rfl
theorem g65 : cfg.given 65 = none := rfl
theorem F66 : cfg.fn 66 = some fi66 := rfl
theorem g66 : cfg.given 66 = none := rfl
theorem F67 : cfg.fn 67 = some fi67 := rfl
theorem g67 : cfg.given 67 = none := rfl
theorem F68 : cfg.fn 68 = some fi68 := rfl
theorem g68 : cfg.given 68 = none := rfl
theorem F69 : cfg.fn 69 = some fi69 := rfl
theorem g69 : cfg.given 69 = none := rfl
theorem F70 : cfg.fn 70 = some fi70 := rfl
theorem g70 : cfg.given 70 = none := rfl
theorem F71 : cfg.fn 71 = some fi71 := rfl
theorem g71 : cfg.given 71 = none := rfl
theorem F72 : cfg.fn 72 = some fi72 := rfl
theorem g72 : cfg.given 72 = none := rfl
theorem F73 : cfg.fn 73 = some fi73 := rfl
theorem g73 : cfg.given 73 = none := rfl
theorem F74 : cfg.fn 74 = some fi74 := rfl
theorem g74 : cfg.given 74 = none := rfl
theorem F75 : cfg.fn 75 = some fi75 := rfl
theorem g75 : cfg.given 75 = none := rfl
theorem F76 : cfg.fn 76 = some fi76 := rfl
theorem g76 : cfg.given 76 = none := rfl
theorem F77 : cfg.fn 77 = some fi77 := rfl
theorem g77 : cfg.given 77 = none := rfl
theorem F79 : cfg.fn 79 = some fi79 := rfl
theorem g79 : cfg.given 79 = none := rfl
theorem F80 : cfg.fn 80 = some fi80 := rfl
theorem g80 : cfg.given 80 = none := rfl
theorem F81 : cfg.fn 81 = some fi81 := rfl
theorem g81 : cfg.given 81 = none := rfl
theorem F82 : cfg.fn 82 = some fi82 := rfl
theorem g82 : cfg.given 82 = none := rfl
theorem F83 : cfg.fn 83 = some fi83 := rfl
theorem g83 : cfg.given 83 = none := rfl
theorem F84 : cfg.fn 84 = some fi84 := rfl
theorem g84 : cfg.given 84 = none := rfl
theorem F86 : cfg.fn 86 = some fi86 := rfl
theorem g86 : cfg.given 86 = none := rfl
theorem F87 : cfg.fn 87 = some fi87 := rfl
theorem g87 : cfg.given 87 = none := rfl
theorem F88 : cfg.fn 88 = some fi88 := rfl
theorem g88 : cfg.given 88 = none := rfl
theorem F89 : cfg.fn 89 = some fi89 := rfl
theorem g89 : cfg.given 89 = none := rfl
theorem F90 : cfg.fn 90 = some fi90 := rfl
theorem g90 : cfg.given 90 = none := rfl
theorem F91 : cfg.fn 91 = some fi91 := rfl
theorem g91 : cfg.given 91 = none := rfl
theorem F95 : cfg.fn 95 = some fi95 := rfl
theorem g95 : cfg.given 95 = none := rfl
theorem F96 : cfg.fn 96 = some fi96 := rfl
theorem g96 : cfg.given 96 = none := rfl
theorem types_ok : (types.all fun p => tokB BT0 Try.prog p.1 p.2) = true := by kernel_rfl
theorem fok3 : FOK Try.prog cfg 3 fi3 := ⟨Try.f3, Try.func3, rfl, rfl, rfl, by kernel_rfl, by decide⟩
theorem fok4 : FOK Try.prog cfg 4 fi4 := ⟨Try.f4, Try.func4, rfl, rfl, rfl, by kernel_rfl, by decide⟩
theorem fok5 : FOK Try.prog cfg 5 fi5 := ⟨Try.f5, Try.func5, rfl, rfl, rfl, by kernel_rfl, by decide⟩
theorem fok6 : FOK Try.prog cfg 6 fi6 := ⟨Try.f6, Try.func6, rfl, rfl, rfl, by kernel_rfl, by decide⟩
theorem fok7 : FOK Try.prog cfg 7 fi7 := ⟨Try.f7, Try.func7, rfl, rfl, rfl, by kernel_rfl, by decide⟩
theorem fok8 : FOK Try.prog cfg 8 fi8 := ⟨Try.f8, Try.func8, rfl, rfl, rfl, by kernel_rfl, by decide⟩
theorem fok9 : FOK Try.prog cfg 9 fi9 := ⟨Try.f9, Try.func9, rfl, rfl, rfl, by kernel_rfl, by decide⟩
theorem fok10 : FOK Try.prog cfg 10 fi10 := ⟨Try.f10, Try.func10, rfl, rfl, rfl, by kernel_rfl, by decide⟩
theorem fok11 : FOK Try.prog cfg 11 fi11 := ⟨Try.f11, Try.func11, rfl, rfl, rfl, by kernel_rfl, by decide⟩
theorem fok12 : FOK Try.prog cfg 12 fi12 := ⟨Try.f12, Try.func12, rfl, rfl, rfl, by kernel_rfl, by decide⟩
theorem fok13 : FOK Try.prog cfg 13 fi13 := ⟨Try.f13, Try.func13, rfl, rfl, rfl, by kernel_rfl, by decide⟩
theorem fok14 : FOK Try.prog cfg 14 fi14 := ⟨Try.f14, Try.func14, rfl, rfl, rfl, by kernel_rfl, by decide⟩
theorem fok15 : FOK Try.prog cfg 15 fi15 := ⟨Try.f15, Try.func15, rfl, rfl, rfl, by kernel_rfl, by decide⟩
theorem fok16 : FOK Try.prog cfg 16 fi16 := ⟨Try.f16, Try.func16, rfl, rfl, rfl, by kernel_rfl, by decide⟩
theorem fok17 : FOK Try.prog cfg 17 fi17 := ⟨Try.f17, Try.func17, rfl, rfl, rfl, by kernel_rfl, by decide⟩
theorem fok18 : FOK Try.prog cfg 18 fi18 := ⟨Try.f18, Try.func18, rfl, rfl, rfl, by kernel_rfl, by decide⟩
theorem fok19 : FOK Try.prog cfg 19 fi19 := ⟨Try.f19, Try.func19, rfl, rfl, rfl, by kernel_rfl, by decide⟩
theorem fok20 : FOK Try.prog cfg 20 fi20 := ⟨Try.f20, Try.func20, rfl, rfl, rfl, by kernel_rfl, by decide⟩
theorem fok21 : FOK Try.prog cfg 21 fi21 := ⟨Try.f21, Try.func21, rfl, rfl, rfl, by kernel_rfl, by decide⟩
theorem fok22 : FOK Try.prog cfg 22 fi22 := ⟨Try.f22, Try.func22, rfl, rfl, rfl, by kernel_rfl, by decide⟩
theorem fok23 : FOK Try.prog cfg 23 fi23 := ⟨Try.f23, Try.func23, rfl, rfl, rfl, by kernel_rfl, by decide⟩
theorem fok24 : FOK Try.prog cfg 24 fi24 := ⟨Try.f24, Try.func24, rfl, rfl, rfl, by kernel_rfl, by decide⟩
theorem fok25 : FOK Try.prog cfg 25 fi25 := ⟨Try.f25, Try.func25, rfl, rfl, rfl, by kernel_rfl, by decide⟩
theorem fok26 : FOK Try.prog cfg 26 fi26 := ⟨Try.f26, Try.func26, rfl, rfl, rfl, by kernel_rfl, by decide⟩
theorem fok27 : FOK Try.prog cfg 27 fi27 := ⟨Try.f27, Try.func27, rfl, rfl, rfl, by kernel_rfl, by decide⟩
theorem fok28 : FOK Try.prog cfg 28 fi28 := ⟨Try.f28, Try.func28, rfl, rfl, rfl, by kernel_rfl, by decide⟩
theorem fok29 : FOK Try.prog cfg 29 fi29 := ⟨Try.f29, Try.func29, rfl, rfl, rfl, by kernel_rfl, by decide⟩
theorem fok30 : FOK Try.prog cfg 30 fi30 := ⟨Try.f30, Try.func30, rfl, rfl, rfl, by kernel_rfl, by decide⟩
theorem fok31 : FOK Try.prog cfg 31 fi31 := ⟨Try.f31, Try.func31, rfl, rfl, rfl, by kernel_rfl, by decide⟩
theorem fok32 : FOK Try.prog cfg 32 fi32 := ⟨Try.f32, Try.func32, rfl, rfl, rfl, by kernel_rfl, by decide⟩
theorem fok33 : FOK Try.prog cfg 33 fi33 := ⟨Try.f33, Try.func33, rfl, rfl, rfl, by kernel_rfl, by decide⟩
theorem fok34 : FOK Try.prog cfg 34 fi34 := ⟨Try.f34, Try.func34, rfl, rfl, rfl, by kernel_rfl, by decide⟩
theorem fok35 : FOK Try.prog cfg 35 fi35 := ⟨Try.f35, Try.func35, rfl, rfl, rfl, by kernel_rfl, by decide⟩
theorem fok36 : FOK Try.prog cfg 36 fi36 := ⟨Try.f36, Try.func36, rfl, rfl, rfl, by kernel_rfl, by decide⟩
theorem fok37 : FOK Try.prog cfg 37 fi37 := ⟨Try.f37, Try.func37, rfl, rfl, rfl, by kernel_rfl, by decide⟩
theorem fok38 : FOK Try.prog cfg 38 fi38 := ⟨Try.f38, Try.func38, rfl, rfl, rfl, by kernel_rfl, by decide⟩
theorem fok39 : FOK Try.prog cfg 39 fi39 := ⟨Try.f39, Try.func39, rfl, rfl, rfl, by kernel_rfl, by decide⟩
theorem fok40 : FOK Try.prog cfg 40 fi40 := ⟨Try.f40, Try.func40, rfl, rfl, rfl, by kernel_rfl, by decide⟩
theorem fok41 : FOK Try.prog cfg 41 fi41 := ⟨Try.f41, Try.func41, rfl, rfl, rfl, by kernel_rfl, by decide⟩
theorem fok42 : FOK Try.prog cfg 42 fi42 := ⟨Try.f42, Try.func42, rfl, rfl, rfl, by kernel_rfl, by decide⟩
theorem fok43 : FOK Try.prog cfg 43 fi43 := ⟨Try.f43, Try.func43, rfl, rfl, rfl, by kernel_rfl, by decide⟩
theorem fok44 : FOK Try.prog cfg 44 fi44 := ⟨Try.f44, Try.func44, rfl, rfl, rfl, by kernel_rfl, by decide⟩
theorem fok46 : FOK Try.prog cfg 46 fi46 := ⟨Try.f46, Try.func46, rfl, rfl, rfl, by kernel_rfl, by decide⟩
theorem fok47 : FOK Try.prog cfg 47 fi47 := ⟨Try.f47, Try.func47, rfl, rfl, rfl, by kernel_rfl, by decide⟩
theorem fok48 : FOK Try.prog cfg 48 fi48 := ⟨Try.f48, Try.func48, rfl, rfl, rfl, by kernel_rfl, by decide⟩
theorem fok49 : FOK Try.prog cfg 49 fi49 := ⟨Try.f49, Try.func49, rfl, rfl, rfl, by kernel_rfl, by decide⟩
theorem fok50 : FOK Try.prog cfg 50 fi50 := ⟨Try.f50, Try.func50, rfl, rfl, rfl, by kernel_rfl, by decide⟩
theorem fok52 : FOK Try.prog cfg 52 fi52 := ⟨Try.f52, Try.func52, rfl, rfl, rfl, by kernel_rfl, by decide⟩
theorem fok53 : FOK Try.prog cfg 53 fi53 := ⟨Try.f53, Try.func53, rfl, rfl, rfl, by kernel_rfl, by decide⟩
theorem fok54 : FOK Try.prog cfg 54 fi54 := ⟨Try.f54, Try.func54, rfl, rfl, rfl, by kernel_rfl, by decide⟩
theorem fok55 : FOK Try.prog cfg 55 fi55 := ⟨Try.f55, Try.func55, rfl, rfl, rfl, by kernel_rfl, by decide⟩
theorem fok56 : FOK Try.prog cfg 56 fi56 := ⟨Try.f56, Try.func56, rfl, rfl, rfl, by kernel_rfl, by decide⟩
theorem fok57 : FOK Try.prog cfg 57 fi57 := ⟨Try.f57, Try.func57, rfl, rfl, rfl, by kernel_rfl, by decide⟩
theorem fok58 : FOK Try.prog cfg 58 fi58 := ⟨Try.f58, Try.func58, rfl, rfl, rfl, by kernel_rfl, by decide⟩
theorem fok59 : FOK Try.prog cfg 59 fi59 := ⟨Try.f59, Try.func59, rfl, rfl, rfl, by kernel_rfl, by decide⟩
theorem fok60 : FOK Try.prog cfg 60 fi60 := ⟨Try.f60, Try.func60, rfl, rfl, rfl, by kernel_rfl, by decide⟩
theorem fok61 : FOK Try.prog cfg 61 fi61 := ⟨Try.f61, Try.func61, rfl, rfl, rfl, by kernel_rfl, by decide⟩
theorem fok62 : FOK Try.prog cfg 62 fi62 := ⟨Try.f62, Try.func62, rfl, rfl, rfl, by kernel_rfl, by decide⟩
theorem fok63 : FOK Try.prog cfg 63 fi63 := ⟨Try.f63, Try.func63, rfl, rfl, rfl, by kernel_rfl, by decide⟩
theorem fok64 : FOK Try.prog cfg 64 fi64 := ⟨Try.f64, Try.func64, rfl, rfl, rfl, by kernel_rfl, by decide⟩
theorem fok65 : FOK Try.prog cfg 65 fi65 := ⟨Try.f65, Try.func65, rfl, rfl, rfl, by kernel_rfl, by decide⟩
theorem fok66 : FOK Try.prog cfg 66 fi66 := ⟨Try.f66, Try.func66, rfl, rfl, rfl, by kernel_rfl, by decide⟩
theorem fok67 : FOK Try.prog cfg 67 fi67 := ⟨Try.f67, Try.func67, rfl, rfl, rfl, by kernel_rfl, by decide⟩
theorem fok68 : FOK Try.prog cfg 68 fi68 := ⟨Try.f68, Try.func68, rfl, rfl, rfl, by kernel_rfl, by decide⟩
theorem fok69 : FOK Try.prog cfg 69 fi69 := ⟨Try.f69, Try.func69, rfl, rfl, rfl, by kernel_rfl, by decide⟩
theorem fok70 : FOK Try.prog cfg 70 fi70 := ⟨Try.f70, Try.func70, rfl, rfl, rfl, by kernel_rfl, by decide⟩
theorem fok71 : FOK Try.prog cfg 71 fi71 := ⟨Try.f71, Try.func71, rfl, rfl, rfl, by kernel_rfl, by decide⟩
theorem fok72 : FOK Try.prog cfg 72 fi72 := ⟨Try.f72, Try.func72, rfl, rfl, rfl, by kernel_rfl, by decide⟩
theorem fok73 : FOK Try.prog cfg 73 fi73 := ⟨Try.f73, Try.func73, rfl, rfl, rfl, by kernel_rfl, by decide⟩
theorem fok74 : FOK Try.prog cfg 74 fi74 := ⟨Try.f74, Try.func74, rfl, rfl, rfl, by kernel_rfl, by decide⟩
theorem fok75 : FOK Try.prog cfg 75 fi75 := ⟨Try.f75, Try.func75, rfl, rfl, rfl, by kernel_rfl, by decide⟩
theorem fok76 : FOK Try.prog cfg 76 fi76 := ⟨Try.f76, Try.func76, rfl, rfl, rfl, by kernel_rfl, by decide⟩
theorem fok77 : FOK Try.prog cfg 77 fi77 := ⟨Try.f77, Try.func77, rfl, rfl, rfl, by kernel_rfl, by decide⟩
theorem fok79 : FOK Try.prog cfg 79 fi79 := ⟨Try.f79, Try.func79, rfl, rfl, rfl, by kernel_rfl, by decide⟩
theorem fok80 : FOK Try.prog cfg 80 fi80 := ⟨Try.f80, Try.func80, rfl, rfl, rfl, by kernel_rfl, by decide⟩
theorem fok81 : FOK Try.prog cfg 81 fi81 := ⟨Try.f81, Try.func81, rfl, rfl, rfl, by kernel_rfl, by decide⟩
theorem fok82 : FOK Try.prog cfg 82 fi82 := ⟨Try.f82, Try.func82, rfl, rfl, rfl, by kernel_rfl, by decide⟩
theorem fok83 : FOK Try.prog cfg 83 fi83 := ⟨Try.f83, Try.func83, rfl, rfl, rfl, by kernel_rfl, by decide⟩
theorem fok84 : FOK Try.prog cfg 84 fi84 := ⟨Try.f84, Try.func84, rfl, rfl, rfl, by kernel_rfl, by decide⟩
theorem fok85 : FOK Try.prog cfg 85 fi85 := ⟨Try.f85, Try.func85, rfl, rfl, rfl, by kernel_rfl, by decide⟩
theorem fok86 : FOK Try.prog cfg 86 fi86 := ⟨Try.f86, Try.func86, rfl, rfl, rfl, by kernel_rfl, by decide⟩
theorem fok87 : FOK Try.prog cfg 87 fi87 := ⟨Try.f87, Try.func87, rfl, rfl, rfl, by kernel_rfl, by decide⟩
theorem fok88 : FOK Try.prog cfg 88 fi88 := ⟨Try.f88, Try.func88, rfl, rfl, rfl, by kernel_rfl, by decide⟩
theorem fok89 : FOK Try.prog cfg 89 fi89 := ⟨Try.f89, Try.func89, rfl, rfl, rfl, by kernel_rfl, by decide⟩
theorem fok90 : FOK Try.prog cfg 90 fi90 := ⟨Try.f90, Try.func90, rfl, rfl, rfl, by kernel_rfl, by decide⟩
theorem fok91 : FOK Try.prog cfg 91 fi91 := ⟨Try.f91, Try.func91, rfl, rfl, rfl, by kernel_rfl, by decide⟩
theorem fok93 : FOK Try.prog cfg 93 fi93 := ⟨Try.f93, Try.func93, rfl, rfl, rfl, by kernel_rfl, by decide⟩
theorem fok94 : FOK Try.prog cfg 94 fi94 := ⟨Try.f94, Try.func94, rfl, rfl, rfl, by kernel_rfl, by decide⟩
theorem fok95 : FOK Try.prog cfg 95 fi95 := ⟨Try.f95, Try.func95, rfl, rfl, rfl, by kernel_rfl, by decide⟩
theorem fok96 : FOK Try.prog cfg 96 fi96 := ⟨Try.f96, Try.func96, rfl, rfl, rfl, by kernel_rfl, by decide⟩
theorem cok : COK BT0 Try.prog cfg where
  T := look_ok types_ok
  fn := lookF_ok (fun p hp => by
    simp only [fns, List.mem_cons, List.not_mem_nil, or_false] at hp
    rcases hp with rfl | rfl | rfl | rfl | rfl | rfl | rfl | rfl | rfl | rfl | rfl | rfl | rfl | rfl | rfl | rfl | rfl | rfl | rfl | rfl | rfl | rfl | rfl | rfl | rfl | rfl | rfl | rfl | rfl | rfl | rfl | rfl | rfl | rfl | rfl | rfl | rfl | rfl | rfl | rfl | rfl | rfl | rfl | rfl | rfl | rfl | rfl | rfl | rfl | rfl | rfl | rfl | rfl | rfl | rfl | rfl | rfl | rfl | rfl | rfl | rfl | rfl | rfl | rfl | rfl | rfl | rfl | rfl | rfl | rfl | rfl | rfl | rfl | rfl | rfl | rfl | rfl | rfl | rfl | rfl | rfl | rfl | rfl | rfl | rfl | rfl | rfl | rfl | rfl | rfl
    · exact fok3
    · exact fok4
    · exact fok5
    · exact fok6
    · exact fok7
    · exact fok8
    · exact fok9
    · exact fok10
    · exact fok11
    · exact fok12
    · exact fok13
    · exact fok14
    · exact fok15
    · exact fok16
    · exact fok17
    · exact fok18
    · exact fok19
    · exact fok20
    · exact fok21
    · exact fok22
    · exact fok23
    · exact fok24
    · exact fok25
    · exact fok26
    · exact fok27
    · exact fok28
    · exact fok29
    · exact fok30
    · exact fok31
    · exact fok32
    · exact fok33
    · exact fok34
    · exact fok35
    · exact fok36
    · exact fok37
    · exact fok38
    · exact fok39
    · exact fok40
    · exact fok41
    · exact fok42
    · exact fok43
    · exact fok44
    · exact fok46
    · exact fok47
    · exact fok48
    · exact fok49
    · exact fok50
    · exact fok52
    · exact fok53
    · exact fok54
    · exact fok55
    · exact fok56
    · exact fok57
    · exact fok58
    · exact fok59
    · exact fok60
    · exact fok61
    · exact fok62
    · exact fok63
    · exact fok64
    · exact fok65
    · exact fok66
    · exact fok67
    · exact fok68
    · exact fok69
    · exact fok70
    · exact fok71
    · exact fok72
    · exact fok73
    · exact fok74
    · exact fok75
    · exact fok76
    · exact fok77
    · exact fok79
    · exact fok80
    · exact fok81
    · exact fok82
    · exact fok83
    · exact fok84
    · exact fok85
    · exact fok86
    · exact fok87
    · exact fok88
    · exact fok89
    · exact fok90
    · exact fok91
    · exact fok93
    · exact fok94
    · exact fok95
    · exact fok96)
  given := fun f g h => by
    simp only [cfg, givens] at h
    split at h
    · rename_i e; subst e; cases h; exact given_bWrite
    split at h
    · rename_i e; subst e; cases h; exact given_bString
    cases h
  meth := fun t m f d h => by cases h
  mixed := by kernel_rfl
end Go.Proofs.Ytfkgdlfponfimaa.X
