/- The configuration of the simple machine for this seat, written by a program of this claim's (xcfg.py). -/
import Derived.Test.YtealccnfnpkngaaProg
import Derived.Test.YtealccnfnpkngaaL
import Derived.Test.YtealccnfnpkngaaW
import Derived.Test.YtealccnfnpkngaaMt
import Derived.Test.YtealccnfnpkngaaG
set_option linter.unusedVariables false
set_option maxRecDepth 100000
namespace Go.Proofs.Ytealccnfnpkngaa.X
open Go Go.RowKit
abbrev BT0 : BT := BTG
def types : List (TypeId × TI) := [
  (1, ⟨.func, 1, 8, .nilf⟩),
  (2, ⟨.int .i64, 1, 8, .int .i64 0⟩),
  (3, ⟨.int .i64, 1, 8, .int .i64 0⟩),
  (4, ⟨.bool, 1, 1, .bool false⟩),
  (5, ⟨.int .u8, 1, 1, .int .u8 0⟩),
  (9, ⟨.str, 1, 16, .str ⟨#[]⟩⟩),
  (12, ⟨.int .u64, 1, 8, .int .u64 0⟩),
  (15, ⟨.ptr, 1, 8, .nilp⟩),
  (16, ⟨.ptr, 1, 8, .nilp⟩),
  (17, ⟨.ptr, 1, 8, .nilp⟩),
  (20, ⟨.iface, 1, 16, .nili⟩),
  (21, ⟨.int .i32, 1, 4, .int .i32 0⟩),
  (22, ⟨.slice 42, 1, 24, .emp⟩),
  (23, ⟨.slice 38, 1, 24, .emp⟩),
  (24, ⟨.int .u64, 1, 8, .int .u64 0⟩),
  (25, ⟨.strct [(0, 22), (1, 23), (2, 24)], 3, 56, .agg [.emp, .emp, .int .u64 0]⟩),
  (26, ⟨.strct [(0, 22), (1, 23), (2, 24)], 3, 56, .agg [.emp, .emp, .int .u64 0]⟩),
  (27, ⟨.slice 34, 1, 24, .emp⟩),
  (28, ⟨.func, 1, 8, .nilf⟩),
  (29, ⟨.func, 1, 8, .nilf⟩),
  (30, ⟨.int .i64, 1, 8, .int .i64 0⟩),
  (32, ⟨.func, 1, 8, .nilf⟩),
  (33, ⟨.strct [(0, 3), (1, 24), (2, 24)], 3, 24, .agg [.int .i64 0, .int .u64 0, .int .u64 0]⟩),
  (34, ⟨.strct [(0, 3), (1, 24), (2, 24)], 3, 24, .agg [.int .i64 0, .int .u64 0, .int .u64 0]⟩),
  (35, ⟨.func, 1, 8, .nilf⟩),
  (36, ⟨.func, 1, 8, .nilf⟩),
  (37, ⟨.strct [(0, 24), (1, 24), (2, 24), (3, 24), (4, 24)], 5, 40, .agg [.int .u64 0, .int .u64 0, .int .u64 0, .int .u64 0, .int .u64 0]⟩),
  (38, ⟨.strct [(0, 24), (1, 24), (2, 24), (3, 24), (4, 24)], 5, 40, .agg [.int .u64 0, .int .u64 0, .int .u64 0, .int .u64 0, .int .u64 0]⟩),
  (39, ⟨.func, 1, 8, .nilf⟩),
  (40, ⟨.func, 1, 8, .nilf⟩),
  (41, ⟨.strct [(0, 24), (1, 24), (2, 24)], 3, 24, .agg [.int .u64 0, .int .u64 0, .int .u64 0]⟩),
  (42, ⟨.strct [(0, 24), (1, 24), (2, 24)], 3, 24, .agg [.int .u64 0, .int .u64 0, .int .u64 0]⟩),
  (43, ⟨.func, 1, 8, .nilf⟩),
  (44, ⟨.slice 24, 1, 24, .emp⟩),
  (45, ⟨.strct [(0, 24), (1, 24), (2, 24), (3, 24)], 4, 32, .agg [.int .u64 0, .int .u64 0, .int .u64 0, .int .u64 0]⟩),
  (46, ⟨.strct [(0, 24), (1, 24), (2, 24), (3, 24)], 4, 32, .agg [.int .u64 0, .int .u64 0, .int .u64 0, .int .u64 0]⟩),
  (47, ⟨.ptr, 1, 8, .nilp⟩),
  (48, ⟨.func, 1, 8, .nilf⟩),
  (49, ⟨.ptr, 1, 8, .nilp⟩),
  (50, ⟨.func, 1, 8, .nilf⟩),
  (51, ⟨.strct [(0, 24), (1, 24), (2, 24), (3, 24), (4, 24)], 5, 40, .agg [.int .u64 0, .int .u64 0, .int .u64 0, .int .u64 0, .int .u64 0]⟩),
  (52, ⟨.strct [(0, 24), (1, 24), (2, 24), (3, 24), (4, 24)], 5, 40, .agg [.int .u64 0, .int .u64 0, .int .u64 0, .int .u64 0, .int .u64 0]⟩),
  (54, ⟨.func, 1, 8, .nilf⟩),
  (55, ⟨.func, 1, 8, .nilf⟩),
  (56, ⟨.func, 1, 8, .nilf⟩),
  (57, ⟨.func, 1, 8, .nilf⟩),
  (58, ⟨.func, 1, 8, .nilf⟩),
  (59, ⟨.func, 1, 8, .nilf⟩),
  (61, ⟨.func, 1, 8, .nilf⟩),
  (63, ⟨.func, 1, 8, .nilf⟩),
  (64, ⟨.func, 1, 8, .nilf⟩),
  (65, ⟨.func, 1, 8, .nilf⟩),
  (66, ⟨.func, 1, 8, .nilf⟩),
  (67, ⟨.func, 1, 8, .nilf⟩),
  (68, ⟨.ptr, 1, 8, .nilp⟩),
  (69, ⟨.func, 1, 8, .nilf⟩),
  (70, ⟨.func, 1, 8, .nilf⟩),
  (71, ⟨.strct [(0, 26), (3, 3)], 4, 64, .agg [.emp, .emp, .int .u64 0, .int .i64 0]⟩),
  (72, ⟨.strct [(0, 26), (3, 3)], 4, 64, .agg [.emp, .emp, .int .u64 0, .int .i64 0]⟩),
  (73, ⟨.func, 1, 8, .nilf⟩),
  (74, ⟨.array 3 73, 3, 24, .agg [.nilf, .nilf, .nilf]⟩),
  (75, ⟨.func, 1, 8, .nilf⟩),
  (77, ⟨.func, 1, 8, .nilf⟩),
  (79, ⟨.func, 1, 8, .nilf⟩),
  (80, ⟨.func, 1, 8, .nilf⟩),
  (81, ⟨.func, 1, 8, .nilf⟩),
  (82, ⟨.map 24 3, 1, 8, .nilm⟩),
  (83, ⟨.map 9 24, 1, 8, .nilm⟩),
  (84, ⟨.map 129 24, 1, 8, .nilm⟩),
  (85, ⟨.map 162 24, 1, 8, .nilm⟩),
  (86, ⟨.map 164 3, 1, 8, .nilm⟩),
  (87, ⟨.slice 9, 1, 24, .emp⟩),
  (88, ⟨.strct [(0, 44), (1, 3), (2, 4), (3, 82), (4, 82), (5, 83), (6, 84), (7, 85), (8, 86), (9, 87)], 10, 112, .agg [.emp, .int .i64 0, .bool false, .nilm, .nilm, .nilm, .nilm, .nilm, .nilm, .emp]⟩),
  (89, ⟨.strct [(0, 44), (1, 3), (2, 4), (3, 82), (4, 82), (5, 83), (6, 84), (7, 85), (8, 86), (9, 87)], 10, 112, .agg [.emp, .int .i64 0, .bool false, .nilm, .nilm, .nilm, .nilm, .nilm, .nilm, .emp]⟩),
  (90, ⟨.slice 142, 1, 24, .emp⟩),
  (91, ⟨.strct [(0, 44), (1, 90), (2, 44), (3, 3)], 4, 80, .agg [.emp, .emp, .emp, .int .i64 0]⟩),
  (92, ⟨.strct [(0, 44), (1, 90), (2, 44), (3, 3)], 4, 80, .agg [.emp, .emp, .emp, .int .i64 0]⟩),
  (93, ⟨.func, 1, 8, .nilf⟩),
  (94, ⟨.func, 1, 8, .nilf⟩),
  (95, ⟨.func, 1, 8, .nilf⟩),
  (96, ⟨.func, 1, 8, .nilf⟩),
  (98, ⟨.func, 1, 8, .nilf⟩),
  (100, ⟨.func, 1, 8, .nilf⟩),
  (101, ⟨.func, 1, 8, .nilf⟩),
  (103, ⟨.func, 1, 8, .nilf⟩),
  (104, ⟨.ptr, 1, 8, .nilp⟩),
  (105, ⟨.slice 5, 1, 24, .emp⟩),
  (106, ⟨.strct [(0, 104), (1, 105)], 2, 32, .agg [.nilp, .emp]⟩),
  (107, ⟨.bld, 2, 32, .agg [.nilp, .emp]⟩),
  (108, ⟨.iface, 1, 16, .nili⟩),
  (109, ⟨.iface, 1, 16, .nili⟩),
  (111, ⟨.func, 1, 8, .nilf⟩),
  (112, ⟨.func, 1, 8, .nilf⟩),
  (113, ⟨.func, 1, 8, .nilf⟩),
  (114, ⟨.func, 1, 8, .nilf⟩),
  (115, ⟨.array 5 24, 5, 40, .agg [.int .u64 0, .int .u64 0, .int .u64 0, .int .u64 0, .int .u64 0]⟩),
  (116, ⟨.func, 1, 8, .nilf⟩),
  (117, ⟨.func, 1, 8, .nilf⟩),
  (118, ⟨.func, 1, 8, .nilf⟩),
  (119, ⟨.func, 1, 8, .nilf⟩),
  (121, ⟨.func, 1, 8, .nilf⟩),
  (122, ⟨.func, 1, 8, .nilf⟩),
  (123, ⟨.func, 1, 8, .nilf⟩),
  (124, ⟨.func, 1, 8, .nilf⟩),
  (125, ⟨.func, 1, 8, .nilf⟩),
  (126, ⟨.func, 1, 8, .nilf⟩),
  (128, ⟨.strct [(0, 24), (1, 9)], 2, 24, .agg [.int .u64 0, .str ⟨#[]⟩]⟩),
  (129, ⟨.strct [(0, 24), (1, 9)], 2, 24, .agg [.int .u64 0, .str ⟨#[]⟩]⟩),
  (130, ⟨.func, 1, 8, .nilf⟩),
  (131, ⟨.ptr, 1, 8, .nilp⟩),
  (132, ⟨.slice 131, 1, 24, .emp⟩),
  (133, ⟨.func, 1, 8, .nilf⟩),
  (134, ⟨.ptr, 1, 8, .nilp⟩),
  (135, ⟨.func, 1, 8, .nilf⟩),
  (136, ⟨.func, 1, 8, .nilf⟩),
  (137, ⟨.slice 3, 1, 24, .emp⟩),
  (138, ⟨.func, 1, 8, .nilf⟩),
  (139, ⟨.func, 1, 8, .nilf⟩),
  (140, ⟨.func, 1, 8, .nilf⟩),
  (141, ⟨.strct [(0, 3), (1, 24), (2, 24), (3, 9), (4, 9), (5, 24)], 6, 64, .agg [.int .i64 0, .int .u64 0, .int .u64 0, .str ⟨#[]⟩, .str ⟨#[]⟩, .int .u64 0]⟩),
  (142, ⟨.strct [(0, 3), (1, 24), (2, 24), (3, 9), (4, 9), (5, 24)], 6, 64, .agg [.int .i64 0, .int .u64 0, .int .u64 0, .str ⟨#[]⟩, .str ⟨#[]⟩, .int .u64 0]⟩),
  (144, ⟨.func, 1, 8, .nilf⟩),
  (145, ⟨.int .u64, 1, 8, .int .u64 0⟩),
  (146, ⟨.func, 1, 8, .nilf⟩),
  (147, ⟨.func, 1, 8, .nilf⟩),
  (153, ⟨.int .u32, 1, 4, .int .u32 0⟩),
  (156, ⟨.func, 1, 8, .nilf⟩),
  (161, ⟨.strct [(0, 24), (1, 24), (2, 9), (3, 9)], 4, 48, .agg [.int .u64 0, .int .u64 0, .str ⟨#[]⟩, .str ⟨#[]⟩]⟩),
  (162, ⟨.strct [(0, 24), (1, 24), (2, 9), (3, 9)], 4, 48, .agg [.int .u64 0, .int .u64 0, .str ⟨#[]⟩, .str ⟨#[]⟩]⟩),
  (163, ⟨.strct [(0, 24), (1, 24), (2, 24), (3, 9)], 4, 40, .agg [.int .u64 0, .int .u64 0, .int .u64 0, .str ⟨#[]⟩]⟩),
  (164, ⟨.strct [(0, 24), (1, 24), (2, 24), (3, 9)], 4, 40, .agg [.int .u64 0, .int .u64 0, .int .u64 0, .str ⟨#[]⟩]⟩)]
/-- countersign/countersignlaw14.ConfRuns -/
noncomputable def b3 : Code := Try.f3.body.getD .skip
noncomputable def fi3 : FI := ⟨b3, 113, [.tmp 6], .pure⟩
/-- countersign/countersignlaw14.ConfBalanced -/
noncomputable def b4 : Code := Try.f4.body.getD .skip
noncomputable def fi4 : FI := ⟨b4, 151, [.tmp 4], .pure⟩
/-- countersign/countersignlaw14.ConfNumbers -/
noncomputable def b5 : Code := Try.f5.body.getD .skip
noncomputable def fi5 : FI := ⟨b5, 118, [.tmp 2], .pure⟩
/-- countersign/countersignlaw14.ConfGrants -/
noncomputable def b6 : Code := Try.f6.body.getD .skip
noncomputable def fi6 : FI := ⟨b6, 144, [.tmp 6], .pure⟩
/-- countersign/countersignlaw14.ConfTexts -/
noncomputable def b7 : Code := Try.f7.body.getD .skip
noncomputable def fi7 : FI := ⟨b7, 139, [.tmp 6], .pure⟩
/-- countersign/countersignlaw14.fixed -/
noncomputable def b8 : Code := Try.f8.body.getD .skip
noncomputable def fi8 : FI := ⟨b8, 94, [.tmp 0], .pure⟩
/-- countersign/countersignref14.Check -/
noncomputable def b9 : Code := Try.f9.body.getD .skip
noncomputable def fi9 : FI := ⟨b9, 62, [.tmp 4], .borrow⟩
/-- countersign/conf.Run -/
noncomputable def b10 : Code := Try.f10.body.getD .skip
noncomputable def fi10 : FI := ⟨b10, 66, [.cell 10 26, .tmp 11, .tmp 12], .pure⟩
/-- countersign/countersignref14.Run -/
noncomputable def b11 : Code := Try.f11.body.getD .skip
noncomputable def fi11 : FI := ⟨b11, 100, [.cell 10 26, .tmp 11, .tmp 12], .pure⟩
/-- countersign/countersignref14.Is -/
noncomputable def b12 : Code := Try.f12.body.getD .skip
noncomputable def fi12 : FI := ⟨b12, 46, [.tmp 4], .borrow⟩
/-- countersign/conf.Check -/
noncomputable def b13 : Code := Try.f13.body.getD .skip
noncomputable def fi13 : FI := ⟨b13, 56, [.tmp 4], .borrow⟩
/-- countersign/countersignref14.Load -/
noncomputable def b14 : Code := Try.f14.body.getD .skip
noncomputable def fi14 : FI := ⟨b14, 26, [.tmp 4], .borrow⟩
/-- countersign/ideal.New -/
noncomputable def b15 : Code := Try.f15.body.getD .skip
noncomputable def fi15 : FI := ⟨b15, 13, [.tmp 2], .keep⟩
/-- countersign/countersignref03.New -/
noncomputable def b16 : Code := Try.f16.body.getD .skip
noncomputable def fi16 : FI := ⟨b16, 8, [.tmp 2], .keep⟩
/-- countersign/conf.Grant -/
noncomputable def b17 : Code := Try.f17.body.getD .skip
noncomputable def fi17 : FI := ⟨b17, 44, [.cell 12 52, .tmp 13], .keep⟩
/-- countersign/countersignref14.Grant -/
noncomputable def b18 : Code := Try.f18.body.getD .skip
noncomputable def fi18 : FI := ⟨b18, 43, [.cell 12 52, .tmp 13], .keep⟩
/-- (*countersign/ideal.Oracle).Drawn -/
noncomputable def b19 : Code := Try.f19.body.getD .skip
noncomputable def fi19 : FI := ⟨b19, 7, [.tmp 2], .keep⟩
/-- (*countersign/countersignref03.Oracle).Drawn -/
noncomputable def b20 : Code := Try.f20.body.getD .skip
noncomputable def fi20 : FI := ⟨b20, 8, [.tmp 2], .keep⟩
/-- countersign/countersignref14.Find -/
noncomputable def b21 : Code := Try.f21.body.getD .skip
noncomputable def fi21 : FI := ⟨b21, 22, [.tmp 4], .borrow⟩
/-- countersign/token.Check -/
noncomputable def b22 : Code := Try.f22.body.getD .skip
noncomputable def fi22 : FI := ⟨b22, 38, [.tmp 12], .keep⟩
/-- countersign/conf.Unpack -/
noncomputable def b23 : Code := Try.f23.body.getD .skip
noncomputable def fi23 : FI := ⟨b23, 37, [.tmp 2, .tmp 3, .tmp 4, .tmp 5], .pure⟩
/-- countersign/countersignref14.Unpack -/
noncomputable def b24 : Code := Try.f24.body.getD .skip
noncomputable def fi24 : FI := ⟨b24, 37, [.tmp 2, .tmp 3, .tmp 4, .tmp 5], .pure⟩
/-- countersign/conf.Parse -/
noncomputable def b25 : Code := Try.f25.body.getD .skip
noncomputable def fi25 : FI := ⟨b25, 106, [.cell 4 26, .tmp 5], .pure⟩
/-- countersign/countersignref14.Parse -/
noncomputable def b26 : Code := Try.f26.body.getD .skip
noncomputable def fi26 : FI := ⟨b26, 116, [.cell 4 26, .tmp 5], .pure⟩
/-- countersign/conf.Text -/
noncomputable def b27 : Code := Try.f27.body.getD .skip
noncomputable def fi27 : FI := ⟨b27, 50, [.tmp 2], .pure⟩
/-- countersign/conf.Pack -/
noncomputable def b28 : Code := Try.f28.body.getD .skip
noncomputable def fi28 : FI := ⟨b28, 16, [.tmp 6], .pure⟩
/-- countersign/countersignref14.Pack -/
noncomputable def b29 : Code := Try.f29.body.getD .skip
noncomputable def fi29 : FI := ⟨b29, 16, [.tmp 6], .pure⟩
/-- countersign/countersignref14.Text -/
noncomputable def b30 : Code := Try.f30.body.getD .skip
noncomputable def fi30 : FI := ⟨b30, 54, [.tmp 2], .pure⟩
/-- countersign/countersignref12.Check -/
noncomputable def b31 : Code := Try.f31.body.getD .skip
noncomputable def fi31 : FI := ⟨b31, 22, [.tmp 2], .borrow⟩
/-- slices.Clone[[]countersign/api.Quota,countersign/api.Quota] -/
noncomputable def b32 : Code := Try.f32.body.getD .skip
noncomputable def fi32 : FI := ⟨b32, 8, [.tmp 2], .clone⟩
/-- slices.Clone[[]countersign/api.Place,countersign/api.Place] -/
noncomputable def b33 : Code := Try.f33.body.getD .skip
noncomputable def fi33 : FI := ⟨b33, 8, [.tmp 2], .clone⟩
/-- (*countersign/conf.service).tenant -/
noncomputable def b34 : Code := Try.f34.body.getD .skip
noncomputable def fi34 : FI := ⟨b34, 28, [.tmp 6, .tmp 7], .keep⟩
/-- (*countersign/conf.service).volume -/
noncomputable def b35 : Code := Try.f35.body.getD .skip
noncomputable def fi35 : FI := ⟨b35, 92, [.tmp 6, .tmp 7], .keep⟩
/-- (*countersign/conf.service).bump -/
noncomputable def b36 : Code := Try.f36.body.getD .skip
noncomputable def fi36 : FI := ⟨b36, 50, [.tmp 6, .tmp 7], .keep⟩
/-- countersign/conf.grouped -/
noncomputable def b37 : Code := Try.f37.body.getD .skip
noncomputable def fi37 : FI := ⟨b37, 9, [.tmp 2], .pure⟩
/-- countersign/countersignref14.volume -/
noncomputable def b38 : Code := Try.f38.body.getD .skip
noncomputable def fi38 : FI := ⟨b38, 73, [.cell 8 26, .tmp 9, .tmp 10], .keep⟩
/-- countersign/countersignref12.Set -/
noncomputable def b39 : Code := Try.f39.body.getD .skip
noncomputable def fi39 : FI := ⟨b39, 34, [.tmp 6, .tmp 7], .keep⟩
/-- countersign/countersignref12.Is -/
noncomputable def b40 : Code := Try.f40.body.getD .skip
noncomputable def fi40 : FI := ⟨b40, 26, [.tmp 4], .pure⟩
/-- countersign/quota.Check -/
noncomputable def b41 : Code := Try.f41.body.getD .skip
noncomputable def fi41 : FI := ⟨b41, 22, [.tmp 2], .borrow⟩
/-- countersign/conf.find -/
noncomputable def b42 : Code := Try.f42.body.getD .skip
noncomputable def fi42 : FI := ⟨b42, 9, [.tmp 4], .borrow⟩
/-- slices.Clone[[]uint64,uint64] -/
noncomputable def b43 : Code := Try.f43.body.getD .skip
noncomputable def fi43 : FI := ⟨b43, 8, [.tmp 2], .clone⟩
/-- countersign/token.Issue -/
noncomputable def b44 : Code := Try.f44.body.getD .skip
noncomputable def fi44 : FI := ⟨b44, 26, [.cell 12 52], .keep⟩
/-- countersign/countersignref07.Issue -/
noncomputable def b45 : Code := Try.f45.body.getD .skip
noncomputable def fi45 : FI := ⟨b45, 15, [.cell 6 52], .keep⟩
/-- (*countersign/ideal.Oracle).Verify -/
noncomputable def b46 : Code := Try.f46.body.getD .skip
noncomputable def fi46 : FI := ⟨b46, 31, [.tmp 8], .keep⟩
/-- countersign/token.Text -/
noncomputable def b47 : Code := Try.f47.body.getD .skip
noncomputable def fi47 : FI := ⟨b47, 6, [.tmp 2], .pure⟩
/-- countersign/conf.take -/
noncomputable def b48 : Code := Try.f48.body.getD .skip
noncomputable def fi48 : FI := ⟨b48, 30, [.tmp 4, .tmp 5, .tmp 6], .pure⟩
/-- countersign/countersignref13.Numbers -/
noncomputable def b49 : Code := Try.f49.body.getD .skip
noncomputable def fi49 : FI := ⟨b49, 31, [.tmp 4, .tmp 5, .tmp 6], .pure⟩
/-- countersign/wire.TakeText -/
noncomputable def b50 : Code := Try.f50.body.getD .skip
noncomputable def fi50 : FI := ⟨b50, 41, [.tmp 4, .tmp 5, .tmp 6], .pure⟩
/-- countersign/quota.Parse -/
noncomputable def b51 : Code := Try.f51.body.getD .skip
noncomputable def fi51 : FI := ⟨b51, 59, [.tmp 2, .tmp 3], .pure⟩
/-- countersign/wire.TakeUint -/
noncomputable def b52 : Code := Try.f52.body.getD .skip
noncomputable def fi52 : FI := ⟨b52, 44, [.tmp 2, .tmp 3, .tmp 4], .pure⟩
/-- countersign/countersignref01.TakeText -/
noncomputable def b53 : Code := Try.f53.body.getD .skip
noncomputable def fi53 : FI := ⟨b53, 43, [.tmp 4, .tmp 5, .tmp 6], .pure⟩
/-- countersign/countersignref12.Parse -/
noncomputable def b54 : Code := Try.f54.body.getD .skip
noncomputable def fi54 : FI := ⟨b54, 80, [.tmp 2, .tmp 3], .pure⟩
/-- countersign/countersignref01.TakeUint -/
noncomputable def b55 : Code := Try.f55.body.getD .skip
noncomputable def fi55 : FI := ⟨b55, 45, [.tmp 2, .tmp 3, .tmp 4], .pure⟩
/-- countersign/wire.PutText -/
noncomputable def b57 : Code := Try.f57.body.getD .skip
noncomputable def fi57 : FI := ⟨b57, 9, [.tmp 2], .pure⟩
/-- countersign/quota.Text -/
noncomputable def b58 : Code := Try.f58.body.getD .skip
noncomputable def fi58 : FI := ⟨b58, 31, [.tmp 2], .pure⟩
/-- countersign/wire.PutUint -/
noncomputable def b59 : Code := Try.f59.body.getD .skip
noncomputable def fi59 : FI := ⟨b59, 6, [.tmp 2], .pure⟩
/-- countersign/countersignref01.PutUint -/
noncomputable def b61 : Code := Try.f61.body.getD .skip
noncomputable def fi61 : FI := ⟨b61, 23, [.tmp 2], .pure⟩
/-- countersign/countersignref01.PutText -/
noncomputable def b62 : Code := Try.f62.body.getD .skip
noncomputable def fi62 : FI := ⟨b62, 9, [.tmp 2], .pure⟩
/-- countersign/countersignref12.Text -/
noncomputable def b63 : Code := Try.f63.body.getD .skip
noncomputable def fi63 : FI := ⟨b63, 38, [.tmp 2], .pure⟩
/-- countersign/countersignref12.Find -/
noncomputable def b64 : Code := Try.f64.body.getD .skip
noncomputable def fi64 : FI := ⟨b64, 20, [.tmp 4], .borrow⟩
/-- countersign/quota.Set -/
noncomputable def b65 : Code := Try.f65.body.getD .skip
noncomputable def fi65 : FI := ⟨b65, 36, [.tmp 6, .tmp 7], .keep⟩
/-- slices.ContainsFunc[[]countersign/api.Quota,countersign/api.Quota] -/
noncomputable def b66 : Code := Try.f66.body.getD .skip
noncomputable def fi66 : FI := ⟨b66, 9, [.tmp 4], .full⟩
/-- (*countersign/conf.service).volume$1 -/
noncomputable def b67 : Code := Try.f67.body.getD .skip
noncomputable def fi67 : FI := ⟨b67, 8, [.tmp 3], .full⟩
/-- countersign/quota.Take -/
noncomputable def b68 : Code := Try.f68.body.getD .skip
noncomputable def fi68 : FI := ⟨b68, 43, [.tmp 6, .tmp 7], .keep⟩
/-- (*countersign/conf.service).group -/
noncomputable def b69 : Code := Try.f69.body.getD .skip
noncomputable def fi69 : FI := ⟨b69, 42, [.tmp 2], .look⟩
/-- countersign/countersignref12.Take -/
noncomputable def b70 : Code := Try.f70.body.getD .skip
noncomputable def fi70 : FI := ⟨b70, 44, [.tmp 6, .tmp 7], .keep⟩
/-- countersign/countersignref06.Power -/
noncomputable def b71 : Code := Try.f71.body.getD .skip
noncomputable def fi71 : FI := ⟨b71, 13, [.tmp 2], .pure⟩
/-- countersign/countersignref14.Least -/
noncomputable def b72 : Code := Try.f72.body.getD .skip
noncomputable def fi72 : FI := ⟨b72, 21, [.tmp 4], .borrow⟩
/-- countersign/quota.find -/
noncomputable def b73 : Code := Try.f73.body.getD .skip
noncomputable def fi73 : FI := ⟨b73, 8, [.tmp 4], .borrow⟩
/-- slices.IndexFunc[[]countersign/api.Place,countersign/api.Place] -/
noncomputable def b74 : Code := Try.f74.body.getD .skip
noncomputable def fi74 : FI := ⟨b74, 19, [.tmp 4], .full⟩
/-- countersign/conf.find$1 -/
noncomputable def b75 : Code := Try.f75.body.getD .skip
noncomputable def fi75 : FI := ⟨b75, 8, [.tmp 3], .full⟩
/-- (*countersign/ideal.Oracle).Mac -/
noncomputable def b76 : Code := Try.f76.body.getD .skip
noncomputable def fi76 : FI := ⟨b76, 33, [.tmp 6], .keep⟩
/-- (*countersign/countersignref03.Oracle).Mac -/
noncomputable def b77 : Code := Try.f77.body.getD .skip
noncomputable def fi77 : FI := ⟨b77, 12, [.tmp 6], .keep⟩
/-- countersign/countersignref07.Said -/
noncomputable def b78 : Code := Try.f78.body.getD .skip
noncomputable def fi78 : FI := ⟨b78, 18, [.tmp 2], .pure⟩
/-- (*countersign/ideal.Oracle).Meet -/
noncomputable def b79 : Code := Try.f79.body.getD .skip
noncomputable def fi79 : FI := ⟨b79, 16, [], .keep⟩
/-- countersign/token.fields -/
noncomputable def b80 : Code := Try.f80.body.getD .skip
noncomputable def fi80 : FI := ⟨b80, 18, [.tmp 2], .pure⟩
/-- countersign/wire.put -/
noncomputable def b82 : Code := Try.f82.body.getD .skip
noncomputable def fi82 : FI := ⟨b82, 20, [.tmp 4], .keep⟩
/-- slices.IndexFunc[[]countersign/api.Quota,countersign/api.Quota] -/
noncomputable def b83 : Code := Try.f83.body.getD .skip
noncomputable def fi83 : FI := ⟨b83, 19, [.tmp 4], .full⟩
/-- countersign/quota.changed -/
noncomputable def b84 : Code := Try.f84.body.getD .skip
noncomputable def fi84 : FI := ⟨b84, 16, [.tmp 6], .keep⟩
/-- slices.Index[[]int,int] -/
noncomputable def b85 : Code := Try.f85.body.getD .skip
noncomputable def fi85 : FI := ⟨b85, 19, [.tmp 4], .borrow⟩
/-- slices.Min[[]int,int] -/
noncomputable def b86 : Code := Try.f86.body.getD .skip
noncomputable def fi86 : FI := ⟨b86, 25, [.tmp 2], .borrow⟩
/-- countersign/quota.find$1 -/
noncomputable def b87 : Code := Try.f87.body.getD .skip
noncomputable def fi87 : FI := ⟨b87, 8, [.tmp 3], .full⟩
/-- (*countersign/ideal.Oracle).Fresh -/
noncomputable def b88 : Code := Try.f88.body.getD .skip
noncomputable def fi88 : FI := ⟨b88, 68, [.tmp 2], .keep⟩
/-- (*countersign/countersignref03.Oracle).value -/
noncomputable def b89 : Code := Try.f89.body.getD .skip
noncomputable def fi89 : FI := ⟨b89, 22, [.tmp 4], .keep⟩
/-- (*countersign/countersignref03.Oracle).at -/
noncomputable def b91 : Code := Try.f91.body.getD .skip
noncomputable def fi91 : FI := ⟨b91, 62, [.tmp 4], .keep⟩
/-- (*countersign/countersignref03.Oracle).draw -/
noncomputable def b92 : Code := Try.f92.body.getD .skip
noncomputable def fi92 : FI := ⟨b92, 64, [.tmp 4], .keep⟩
/-- (*countersign/countersignref03.Oracle).Issued -/
noncomputable def b93 : Code := Try.f93.body.getD .skip
noncomputable def fi93 : FI := ⟨b93, 25, [.tmp 4], .keep⟩
/-- (*countersign/countersignref03.Oracle).Shown -/
noncomputable def b94 : Code := Try.f94.body.getD .skip
noncomputable def fi94 : FI := ⟨b94, 24, [.tmp 4], .keep⟩
noncomputable def fns : List (FuncId × FI) := [(3, fi3), (4, fi4), (5, fi5), (6, fi6), (7, fi7), (8, fi8), (9, fi9), (10, fi10), (11, fi11), (12, fi12), (13, fi13), (14, fi14), (15, fi15), (16, fi16), (17, fi17), (18, fi18), (19, fi19), (20, fi20), (21, fi21), (22, fi22), (23, fi23), (24, fi24), (25, fi25), (26, fi26), (27, fi27), (28, fi28), (29, fi29), (30, fi30), (31, fi31), (32, fi32), (33, fi33), (34, fi34), (35, fi35), (36, fi36), (37, fi37), (38, fi38), (39, fi39), (40, fi40), (41, fi41), (42, fi42), (43, fi43), (44, fi44), (45, fi45), (46, fi46), (47, fi47), (48, fi48), (49, fi49), (50, fi50), (51, fi51), (52, fi52), (53, fi53), (54, fi54), (55, fi55), (57, fi57), (58, fi58), (59, fi59), (61, fi61), (62, fi62), (63, fi63), (64, fi64), (65, fi65), (66, fi66), (67, fi67), (68, fi68), (69, fi69), (70, fi70), (71, fi71), (72, fi72), (73, fi73), (74, fi74), (75, fi75), (76, fi76), (77, fi77), (78, fi78), (79, fi79), (80, fi80), (82, fi82), (83, fi83), (84, fi84), (85, fi85), (86, fi86), (87, fi87), (88, fi88), (89, fi89), (91, fi91), (92, fi92), (93, fi93), (94, fi94)]
def givens (f : FuncId) : Option Given := if f = 56 then some .bWrite else if f = 60 then some .bString else none
def meths (t : TypeId) (m : String) : Option (FuncId × Option TypeId) := none
def flags (i n d : Nat) : List Tmp := bif Nat.beq i 1 && Nat.beq n 13 && Nat.beq d 0 then [5] else bif Nat.beq i 1 && Nat.beq n 13 && Nat.beq d 13 then [5] else bif Nat.beq i 3 && Nat.beq n 6 && Nat.beq d 0 then [3] else bif Nat.beq i 11 && Nat.beq n 4 && Nat.beq d 0 then [13] else bif Nat.beq i 13 && Nat.beq n 14 && Nat.beq d 0 then [7] else bif Nat.beq i 14 && Nat.beq n 6 && Nat.beq d 10 then [13] else bif Nat.beq i 18 && Nat.beq n 10 && Nat.beq d 12 then [13, 2000013] else []
noncomputable def cfg : Cfg := ⟨look types, lookF fns, givens, meths, flags⟩
theorem T1 : cfg.T 1 = some ⟨.func, 1, 8, .nilf⟩ := rfl
theorem T2 : cfg.T 2 = some ⟨.int .i64, 1, 8, .int .i64 0⟩ := rfl
theorem T3 : cfg.T 3 = some ⟨.int .i64, 1, 8, .int .i64 0⟩ := rfl
theorem T4 : cfg.T 4 = some ⟨.bool, 1, 1, .bool false⟩ := rfl
theorem T5 : cfg.T 5 = some ⟨.int .u8, 1, 1, .int .u8 0⟩ := rfl
theorem T9 : cfg.T 9 = some ⟨.str, 1, 16, .str ⟨#[]⟩⟩ := rfl
theorem T12 : cfg.T 12 = some ⟨.int .u64, 1, 8, .int .u64 0⟩ := rfl
theorem T15 : cfg.T 15 = some ⟨.ptr, 1, 8, .nilp⟩ := rfl
theorem T16 : cfg.T 16 = some ⟨.ptr, 1, 8, .nilp⟩ := rfl
theorem T17 : cfg.T 17 = some ⟨.ptr, 1, 8, .nilp⟩ := rfl
theorem T20 : cfg.T 20 = some ⟨.iface, 1, 16, .nili⟩ := rfl
theorem T21 : cfg.T 21 = some ⟨.int .i32, 1, 4, .int .i32 0⟩ := rfl
theorem T22 : cfg.T 22 = some ⟨.slice 42, 1, 24, .emp⟩ := rfl
theorem T23 : cfg.T 23 = some ⟨.slice 38, 1, 24, .emp⟩ := rfl
theorem T24 : cfg.T 24 = some ⟨.int .u64, 1, 8, .int .u64 0⟩ := rfl
theorem T25 : cfg.T 25 = some ⟨.strct [(0, 22), (1, 23), (2, 24)], 3, 56, .agg [.emp, .emp, .int .u64 0]⟩ := rfl
theorem T26 : cfg.T 26 = some ⟨.strct [(0, 22), (1, 23), (2, 24)], 3, 56, .agg [.emp, .emp, .int .u64 0]⟩ := rfl
theorem T27 : cfg.T 27 = some ⟨.slice 34, 1, 24, .emp⟩ := rfl
theorem T28 : cfg.T 28 = some ⟨.func, 1, 8, .nilf⟩ := rfl
theorem T29 : cfg.T 29 = some ⟨.func, 1, 8, .nilf⟩ := rfl
theorem T30 : cfg.T 30 = some ⟨.int .i64, 1, 8, .int .i64 0⟩ := rfl
theorem T32 : cfg.T 32 = some ⟨.func, 1, 8, .nilf⟩ := rfl
theorem T33 : cfg.T 33 = some ⟨.strct [(0, 3), (1, 24), (2, 24)], 3, 24, .agg [.int .i64 0, .int .u64 0, .int .u64 0]⟩ := rfl
theorem T34 : cfg.T 34 = some ⟨.strct [(0, 3), (1, 24), (2, 24)], 3, 24, .agg [.int .i64 0, .int .u64 0, .int .u64 0]⟩ := rfl
theorem T35 : cfg.T 35 = some ⟨.func, 1, 8, .nilf⟩ := rfl
theorem T36 : cfg.T 36 = some ⟨.func, 1, 8, .nilf⟩ := rfl
theorem T37 : cfg.T 37 = some ⟨.strct [(0, 24), (1, 24), (2, 24), (3, 24), (4, 24)], 5, 40, .agg [.int .u64 0, .int .u64 0, .int .u64 0, .int .u64 0, .int .u64 0]⟩ := rfl
theorem T38 : cfg.T 38 = some ⟨.strct [(0, 24), (1, 24), (2, 24), (3, 24), (4, 24)], 5, 40, .agg [.int .u64 0, .int .u64 0, .int .u64 0, .int .u64 0, .int .u64 0]⟩ := rfl
theorem T39 : cfg.T 39 = some ⟨.func, 1, 8, .nilf⟩ := rfl
theorem T40 : cfg.T 40 = some ⟨.func, 1, 8, .nilf⟩ := rfl
theorem T41 : cfg.T 41 = some ⟨.strct [(0, 24), (1, 24), (2, 24)], 3, 24, .agg [.int .u64 0, .int .u64 0, .int .u64 0]⟩ := rfl
theorem T42 : cfg.T 42 = some ⟨.strct [(0, 24), (1, 24), (2, 24)], 3, 24, .agg [.int .u64 0, .int .u64 0, .int .u64 0]⟩ := rfl
theorem T43 : cfg.T 43 = some ⟨.func, 1, 8, .nilf⟩ := rfl
theorem T44 : cfg.T 44 = some ⟨.slice 24, 1, 24, .emp⟩ := rfl
theorem T45 : cfg.T 45 = some ⟨.strct [(0, 24), (1, 24), (2, 24), (3, 24)], 4, 32, .agg [.int .u64 0, .int .u64 0, .int .u64 0, .int .u64 0]⟩ := rfl
theorem T46 : cfg.T 46 = some ⟨.strct [(0, 24), (1, 24), (2, 24), (3, 24)], 4, 32, .agg [.int .u64 0, .int .u64 0, .int .u64 0, .int .u64 0]⟩ := rfl
theorem T47 : cfg.T 47 = some ⟨.ptr, 1, 8, .nilp⟩ := rfl
theorem T48 : cfg.T 48 = some ⟨.func, 1, 8, .nilf⟩ := rfl
theorem T49 : cfg.T 49 = some ⟨.ptr, 1, 8, .nilp⟩ := rfl
theorem T50 : cfg.T 50 = some ⟨.func, 1, 8, .nilf⟩ := rfl
theorem T51 : cfg.T 51 = some ⟨.strct [(0, 24), (1, 24), (2, 24), (3, 24), (4, 24)], 5, 40, .agg [.int .u64 0, .int .u64 0, .int .u64 0, .int .u64 0, .int .u64 0]⟩ := rfl
theorem T52 : cfg.T 52 = some ⟨.strct [(0, 24), (1, 24), (2, 24), (3, 24), (4, 24)], 5, 40, .agg [.int .u64 0, .int .u64 0, .int .u64 0, .int .u64 0, .int .u64 0]⟩ := rfl
theorem T54 : cfg.T 54 = some ⟨.func, 1, 8, .nilf⟩ := rfl
theorem T55 : cfg.T 55 = some ⟨.func, 1, 8, .nilf⟩ := rfl
theorem T56 : cfg.T 56 = some ⟨.func, 1, 8, .nilf⟩ := rfl
theorem T57 : cfg.T 57 = some ⟨.func, 1, 8, .nilf⟩ := rfl
theorem T58 : cfg.T 58 = some ⟨.func, 1, 8, .nilf⟩ := rfl
theorem T59 : cfg.T 59 = some ⟨.func, 1, 8, .nilf⟩ := rfl
theorem T61 : cfg.T 61 = some ⟨.func, 1, 8, .nilf⟩ := rfl
theorem T63 : cfg.T 63 = some ⟨.func, 1, 8, .nilf⟩ := rfl
theorem T64 : cfg.T 64 = some ⟨.func, 1, 8, .nilf⟩ := rfl
theorem T65 : cfg.T 65 = some ⟨.func, 1, 8, .nilf⟩ := rfl
theorem T66 : cfg.T 66 = some ⟨.func, 1, 8, .nilf⟩ := rfl
theorem T67 : cfg.T 67 = some ⟨.func, 1, 8, .nilf⟩ := rfl
theorem T68 : cfg.T 68 = some ⟨.ptr, 1, 8, .nilp⟩ := rfl
theorem T69 : cfg.T 69 = some ⟨.func, 1, 8, .nilf⟩ := rfl
theorem T70 : cfg.T 70 = some ⟨.func, 1, 8, .nilf⟩ := rfl
theorem T71 : cfg.T 71 = some ⟨.strct [(0, 26), (3, 3)], 4, 64, .agg [.emp, .emp, .int .u64 0, .int .i64 0]⟩ := rfl
theorem T72 : cfg.T 72 = some ⟨.strct [(0, 26), (3, 3)], 4, 64, .agg [.emp, .emp, .int .u64 0, .int .i64 0]⟩ := rfl
theorem T73 : cfg.T 73 = some ⟨.func, 1, 8, .nilf⟩ := rfl
theorem T74 : cfg.T 74 = some ⟨.array 3 73, 3, 24, .agg [.nilf, .nilf, .nilf]⟩ := rfl
theorem T75 : cfg.T 75 = some ⟨.func, 1, 8, .nilf⟩ := rfl
theorem T77 : cfg.T 77 = some ⟨.func, 1, 8, .nilf⟩ := rfl
theorem T79 : cfg.T 79 = some ⟨.func, 1, 8, .nilf⟩ := rfl
theorem T80 : cfg.T 80 = some ⟨.func, 1, 8, .nilf⟩ := rfl
theorem T81 : cfg.T 81 = some ⟨.func, 1, 8, .nilf⟩ := rfl
theorem T82 : cfg.T 82 = some ⟨.map 24 3, 1, 8, .nilm⟩ := rfl
theorem T83 : cfg.T 83 = some ⟨.map 9 24, 1, 8, .nilm⟩ := rfl
theorem T84 : cfg.T 84 = some ⟨.map 129 24, 1, 8, .nilm⟩ := rfl
theorem T85 : cfg.T 85 = some ⟨.map 162 24, 1, 8, .nilm⟩ := rfl
theorem T86 : cfg.T 86 = some ⟨.map 164 3, 1, 8, .nilm⟩ := rfl
theorem T87 : cfg.T 87 = some ⟨.slice 9, 1, 24, .emp⟩ := rfl
theorem T88 : cfg.T 88 = some ⟨.strct [(0, 44), (1, 3), (2, 4), (3, 82), (4, 82), (5, 83), (6, 84), (7, 85), (8, 86), (9, 87)], 10, 112, .agg [.emp, .int .i64 0, .bool false, .nilm, .nilm, .nilm, .nilm, .nilm, .nilm, .emp]⟩ := rfl
theorem T89 : cfg.T 89 = some ⟨.strct [(0, 44), (1, 3), (2, 4), (3, 82), (4, 82), (5, 83), (6, 84), (7, 85), (8, 86), (9, 87)], 10, 112, .agg [.emp, .int .i64 0, .bool false, .nilm, .nilm, .nilm, .nilm, .nilm, .nilm, .emp]⟩ := rfl
theorem T90 : cfg.T 90 = some ⟨.slice 142, 1, 24, .emp⟩ := rfl
theorem T91 : cfg.T 91 = some ⟨.strct [(0, 44), (1, 90), (2, 44), (3, 3)], 4, 80, .agg [.emp, .emp, .emp, .int .i64 0]⟩ := rfl
theorem T92 : cfg.T 92 = some ⟨.strct [(0, 44), (1, 90), (2, 44), (3, 3)], 4, 80, .agg [.emp, .emp, .emp, .int .i64 0]⟩ := rfl
theorem T93 : cfg.T 93 = some ⟨.func, 1, 8, .nilf⟩ := rfl
theorem T94 : cfg.T 94 = some ⟨.func, 1, 8, .nilf⟩ := rfl
theorem T95 : cfg.T 95 = some ⟨.func, 1, 8, .nilf⟩ := rfl
theorem T96 : cfg.T 96 = some ⟨.func, 1, 8, .nilf⟩ := rfl
theorem T98 : cfg.T 98 = some ⟨.func, 1, 8, .nilf⟩ := rfl
theorem T100 : cfg.T 100 = some ⟨.func, 1, 8, .nilf⟩ := rfl
theorem T101 : cfg.T 101 = some ⟨.func, 1, 8, .nilf⟩ := rfl
theorem T103 : cfg.T 103 = some ⟨.func, 1, 8, .nilf⟩ := rfl
theorem T104 : cfg.T 104 = some ⟨.ptr, 1, 8, .nilp⟩ := rfl
theorem T105 : cfg.T 105 = some ⟨.slice 5, 1, 24, .emp⟩ := rfl
theorem T106 : cfg.T 106 = some ⟨.strct [(0, 104), (1, 105)], 2, 32, .agg [.nilp, .emp]⟩ := rfl
theorem T107 : cfg.T 107 = some ⟨.bld, 2, 32, .agg [.nilp, .emp]⟩ := rfl
theorem T108 : cfg.T 108 = some ⟨.iface, 1, 16, .nili⟩ := rfl
theorem T109 : cfg.T 109 = some ⟨.iface, 1, 16, .nili⟩ := rfl
theorem T111 : cfg.T 111 = some ⟨.func, 1, 8, .nilf⟩ := rfl
theorem T112 : cfg.T 112 = some ⟨.func, 1, 8, .nilf⟩ := rfl
theorem T113 : cfg.T 113 = some ⟨.func, 1, 8, .nilf⟩ := rfl
theorem T114 : cfg.T 114 = some ⟨.func, 1, 8, .nilf⟩ := rfl
theorem T115 : cfg.T 115 = some ⟨.array 5 24, 5, 40, .agg [.int .u64 0, .int .u64 0, .int .u64 0, .int .u64 0, .int .u64 0]⟩ := rfl
theorem T116 : cfg.T 116 = some ⟨.func, 1, 8, .nilf⟩ := rfl
theorem T117 : cfg.T 117 = some ⟨.func, 1, 8, .nilf⟩ := rfl
theorem T118 : cfg.T 118 = some ⟨.func, 1, 8, .nilf⟩ := rfl
theorem T119 : cfg.T 119 = some ⟨.func, 1, 8, .nilf⟩ := rfl
theorem T121 : cfg.T 121 = some ⟨.func, 1, 8, .nilf⟩ := rfl
theorem T122 : cfg.T 122 = some ⟨.func, 1, 8, .nilf⟩ := rfl
theorem T123 : cfg.T 123 = some ⟨.func, 1, 8, .nilf⟩ := rfl
theorem T124 : cfg.T 124 = some ⟨.func, 1, 8, .nilf⟩ := rfl
theorem T125 : cfg.T 125 = some ⟨.func, 1, 8, .nilf⟩ := rfl
theorem T126 : cfg.T 126 = some ⟨.func, 1, 8, .nilf⟩ := rfl
theorem T128 : cfg.T 128 = some ⟨.strct [(0, 24), (1, 9)], 2, 24, .agg [.int .u64 0, .str ⟨#[]⟩]⟩ := rfl
theorem T129 : cfg.T 129 = some ⟨.strct [(0, 24), (1, 9)], 2, 24, .agg [.int .u64 0, .str ⟨#[]⟩]⟩ := rfl
theorem T130 : cfg.T 130 = some ⟨.func, 1, 8, .nilf⟩ := rfl
theorem T131 : cfg.T 131 = some ⟨.ptr, 1, 8, .nilp⟩ := rfl
theorem T132 : cfg.T 132 = some ⟨.slice 131, 1, 24, .emp⟩ := rfl
theorem T133 : cfg.T 133 = some ⟨.func, 1, 8, .nilf⟩ := rfl
theorem T134 : cfg.T 134 = some ⟨.ptr, 1, 8, .nilp⟩ := rfl
theorem T135 : cfg.T 135 = some ⟨.func, 1, 8, .nilf⟩ := rfl
theorem T136 : cfg.T 136 = some ⟨.func, 1, 8, .nilf⟩ := rfl
theorem T137 : cfg.T 137 = some ⟨.slice 3, 1, 24, .emp⟩ := rfl
theorem T138 : cfg.T 138 = some ⟨.func, 1, 8, .nilf⟩ := rfl
theorem T139 : cfg.T 139 = some ⟨.func, 1, 8, .nilf⟩ := rfl
theorem T140 : cfg.T 140 = some ⟨.func, 1, 8, .nilf⟩ := rfl
theorem T141 : cfg.T 141 = some ⟨.strct [(0, 3), (1, 24), (2, 24), (3, 9), (4, 9), (5, 24)], 6, 64, .agg [.int .i64 0, .int .u64 0, .int .u64 0, .str ⟨#[]⟩, .str ⟨#[]⟩, .int .u64 0]⟩ := rfl
theorem T142 : cfg.T 142 = some ⟨.strct [(0, 3), (1, 24), (2, 24), (3, 9), (4, 9), (5, 24)], 6, 64, .agg [.int .i64 0, .int .u64 0, .int .u64 0, .str ⟨#[]⟩, .str ⟨#[]⟩, .int .u64 0]⟩ := rfl
theorem T144 : cfg.T 144 = some ⟨.func, 1, 8, .nilf⟩ := rfl
theorem T145 : cfg.T 145 = some ⟨.int .u64, 1, 8, .int .u64 0⟩ := rfl
theorem T146 : cfg.T 146 = some ⟨.func, 1, 8, .nilf⟩ := rfl
theorem T147 : cfg.T 147 = some ⟨.func, 1, 8, .nilf⟩ := rfl
theorem T153 : cfg.T 153 = some ⟨.int .u32, 1, 4, .int .u32 0⟩ := rfl
theorem T156 : cfg.T 156 = some ⟨.func, 1, 8, .nilf⟩ := rfl
theorem T161 : cfg.T 161 = some ⟨.strct [(0, 24), (1, 24), (2, 9), (3, 9)], 4, 48, .agg [.int .u64 0, .int .u64 0, .str ⟨#[]⟩, .str ⟨#[]⟩]⟩ := rfl
theorem T162 : cfg.T 162 = some ⟨.strct [(0, 24), (1, 24), (2, 9), (3, 9)], 4, 48, .agg [.int .u64 0, .int .u64 0, .str ⟨#[]⟩, .str ⟨#[]⟩]⟩ := rfl
theorem T163 : cfg.T 163 = some ⟨.strct [(0, 24), (1, 24), (2, 24), (3, 9)], 4, 40, .agg [.int .u64 0, .int .u64 0, .int .u64 0, .str ⟨#[]⟩]⟩ := rfl
theorem T164 : cfg.T 164 = some ⟨.strct [(0, 24), (1, 24), (2, 24), (3, 9)], 4, 40, .agg [.int .u64 0, .int .u64 0, .int .u64 0, .str ⟨#[]⟩]⟩ := rfl
theorem F3 : cfg.fn 3 = some fi3 := rfl
theorem g3 : cfg.given 3 = none := rfl
theorem F4 : cfg.fn 4 = some fi4 := rfl
theorem g4 : cfg.given 4 = none := rfl
theorem F5 : cfg.fn 5 = some fi5 := rfl
theorem g5 : cfg.given 5 = none := rfl
theorem F6 : cfg.fn 6 = some fi6 := rfl
theorem g6 : cfg.given 6 = none := rfl
theorem F7 : cfg.fn 7 = some fi7 := rfl
theorem g7 : cfg.given 7 = none := rfl
theorem F8 : cfg.fn 8 = some fi8 := rfl
theorem g8 : cfg.given 8 = none := rfl
theorem F9 : cfg.fn 9 = some fi9 := rfl
theorem g9 : cfg.given 9 = none := rfl
theorem F10 : cfg.fn 10 = some fi10 := rfl
theorem g10 : cfg.given 10 = none := rfl
theorem F11 : cfg.fn 11 = some fi11 := rfl
theorem g11 : cfg.given 11 = none := rfl
theorem F12 : cfg.fn 12 = some fi12 := rfl
theorem g12 : cfg.given 12 = none := rfl
theorem F13 : cfg.fn 13 = some fi13 := rfl
theorem g13 : cfg.given 13 = none := rfl
theorem F14 : cfg.fn 14 = some fi14 := rfl
theorem g14 : cfg.given 14 = none := rfl
theorem F15 : cfg.fn 15 = some fi15 := rfl
theorem g15 : cfg.given 15 = none := rfl
theorem F16 : cfg.fn 16 = some fi16 := rfl
theorem g16 : cfg.given 16 = none := rfl
theorem F17 : cfg.fn 17 = some fi17 := rfl
theorem g17 : cfg.given 17 = none := rfl
theorem F18 : cfg.fn 18 = some fi18 := rfl
theorem g18 : cfg.given 18 = none := rfl
theorem F19 : cfg.fn 19 = some fi19 := rfl
theorem g19 : cfg.given 19 = none := rfl
theorem F20 : cfg.fn 20 = some fi20 := rfl
theorem g20 : cfg.given 20 = none := rfl
theorem F21 : cfg.fn 21 = some fi21 := rfl
theorem g21 : cfg.given 21 = none := rfl
theorem F22 : cfg.fn 22 = some fi22 := rfl
theorem g22 : cfg.given 22 = none := rfl
theorem F23 : cfg.fn 23 = some fi23 := rfl
theorem g23 : cfg.given 23 = none := rfl
theorem F24 : cfg.fn 24 = some fi24 := rfl
theorem g24 : cfg.given 24 = none := rfl
theorem F25 : cfg.fn 25 = some fi25 := rfl
theorem g25 : cfg.given 25 = none := rfl
theorem F26 : cfg.fn 26 = some fi26 := rfl
theorem g26 : cfg.given 26 = none := rfl
theorem F27 : cfg.fn 27 = some fi27 := rfl
theorem g27 : cfg.given 27 = none := rfl
theorem F28 : cfg.fn 28 = some fi28 := rfl
theorem g28 : cfg.given 28 = none := rfl
theorem F29 : cfg.fn 29 = some fi29 := rfl
theorem g29 : cfg.given 29 = none := rfl
theorem F30 : cfg.fn 30 = some fi30 := rfl
theorem g30 : cfg.given 30 = none := rfl
theorem F31 : cfg.fn 31 = some fi31 := rfl
theorem g31 : cfg.given 31 = none := rfl
theorem F32 : cfg.fn 32 = some fi32 := rfl
theorem g32 : cfg.given 32 = none := rfl
theorem F33 : cfg.fn 33 = some fi33 := rfl
theorem g33 : cfg.given 33 = none := rfl
theorem F34 : cfg.fn 34 = some fi34 := rfl
theorem g34 : cfg.given 34 = none := rfl
theorem F35 : cfg.fn 35 = some fi35 := rfl
theorem g35 : cfg.given 35 = none := rfl
theorem F36 : cfg.fn 36 = some fi36 := rfl
theorem g36 : cfg.given 36 = none := rfl
theorem F37 : cfg.fn 37 = some fi37 := rfl
theorem g37 : cfg.given 37 = none := rfl
theorem F38 : cfg.fn 38 = some fi38 := rfl
theorem g38 : cfg.given 38 = none := rfl
theorem F39 : cfg.fn 39 = some fi39 := rfl
theorem g39 : cfg.given 39 = none := rfl
theorem F40 : cfg.fn 40 = some fi40 := rfl
theorem g40 : cfg.given 40 = none := rfl
theorem F41 : cfg.fn 41 = some fi41 := rfl
theorem g41 : cfg.given 41 = none := rfl
theorem F42 : cfg.fn 42 = some fi42 := rfl
theorem g42 : cfg.given 42 = none := rfl
theorem F43 : cfg.fn 43 = some fi43 := rfl
theorem g43 : cfg.given 43 = none := rfl
theorem F44 : cfg.fn 44 = some fi44 := rfl
theorem g44 : cfg.given 44 = none := rfl
theorem F45 : cfg.fn 45 = some fi45 := rfl
theorem g45 : cfg.given 45 = none := rfl
theorem F46 : cfg.fn 46 = some fi46 := rfl
theorem g46 : cfg.given 46 = none := rfl
theorem F47 : cfg.fn 47 = some fi47 := rfl
theorem g47 : cfg.given 47 = none := rfl
theorem F48 : cfg.fn 48 = some fi48 := rfl
theorem g48 : cfg.given 48 = none := rfl
theorem F49 : cfg.fn 49 = some fi49 := rfl
theorem g49 : cfg.given 49 = none := rfl
theorem F50 : cfg.fn 50 = some fi50 := rfl
theorem g50 : cfg.given 50 = none := rfl
theorem F51 : cfg.fn 51 = some fi51 := rfl
theorem g51 : cfg.given 51 = none := rfl
theorem F52 : cfg.fn 52 = some fi52 := rfl
theorem g52 : cfg.given 52 = none := rfl
theorem F53 : cfg.fn 53 = some fi53 := rfl
theorem g53 : cfg.given 53 = none := rfl
theorem F54 : cfg.fn 54 = some fi54 := rfl
theorem g54 : cfg.given 54 = none := rfl
theorem F55 : cfg.fn 55 = some fi55 := rfl
theorem g55 : cfg.given 55 = none := rfl
theorem F57 : cfg.fn 57 = some fi57 := rfl
theorem g57 : cfg.given 57 = none := rfl
theorem F58 : cfg.fn 58 = some fi58 := rfl
theorem g58 : cfg.given 58 = none := rfl
theorem F59 : cfg.fn 59 = some fi59 := rfl
theorem g59 : cfg.given 59 = none := rfl
theorem F61 : cfg.fn 61 = some fi61 := rfl
theorem g61 : cfg.given 61 = none := rfl
theorem F62 : cfg.fn 62 = some fi62 := rfl
theorem g62 : cfg.given 62 = none := rfl
theorem F63 : cfg.fn 63 = some fi63 := rfl
theorem g63 : cfg.given 63 = none := rfl
theorem F64 : cfg.fn 64 = some fi64 := rfl
theorem g64 : cfg.given 64 = none := rfl
theorem F65 : cfg.fn 65 = some fi65 := rfl
theorem g65 : cfg.given 65 = none := rfl
theorem F66 : cfg.fn 66 = some fi66 := rfl
theorem g66 : cfg.given 66 = none := rfl
theorem F67 : cfg.fn 67 = some fi67 := rfl
theorem g67 : cfg.given 67 = none := rfl
theorem F68 : cfg.fn 68 = some fi68 := rfl
theorem g68 : cfg.given 68 = none := rfl
theorem F69 : cfg.fn 69 = some fi69 := rfl
theorem g69 : cfg.given 69 = none := rfl
theorem F70 : cfg.fn 70 = some fi70 := rfl
theorem g70 : cfg.given 70 = none := rfl
theorem F71 : cfg.fn 71 = some fi71 := rfl
theorem g71 : cfg.given 71 = none := rfl
theorem F72 : cfg.fn 72 = some fi72 := rfl
theorem g72 : cfg.given 72 = none := rfl
theorem F73 : cfg.fn 73 = some fi73 := rfl
theorem g73 : cfg.given 73 = none := rfl
theorem F74 : cfg.fn 74 = some fi74 := rfl
theorem g74 : cfg.given 74 = none := rfl
theorem F75 : cfg.fn 75 = some fi75 := rfl
theorem g75 : cfg.given 75 = none := rfl
theorem F76 : cfg.fn 76 = some fi76 := rfl
theorem g76 : cfg.given 76 = none := rfl
theorem F77 : cfg.fn 77 = some fi77 := rfl
theorem g77 : cfg.given 77 = none := rfl
theorem F78 : cfg.fn 78 = some fi78 := rfl
theorem g78 : cfg.given 78 = none := rfl
theorem F79 : cfg.fn 79 = some fi79 := rfl
theorem g79 : cfg.given 79 = none := rfl
theorem F80 : cfg.fn 80 = some fi80 := rfl
theorem g80 : cfg.given 80 = none := rfl
theorem F82 : cfg.fn 82 = some fi82 := rfl
theorem g82 : cfg.given 82 = none := rfl
theorem F83 : cfg.fn 83 = some fi83 := rfl
theorem g83 : cfg.given 83 = none := rfl
theorem F84 : cfg.fn 84 = some fi84 := rfl
theorem g84 : cfg.given 84 = none := rfl
theorem F85 : cfg.fn 85 = some fi85 := rfl
theorem g85 : cfg.given 85 = none := rfl
theorem F86 : cfg.fn 86 = some fi86 := rfl
theorem g86 : cfg.given 86 = none := rfl
theorem F87 : cfg.fn 87 = some fi87 := rfl
theorem g87 : cfg.given 87 = none := rfl
theorem F88 : cfg.fn 88 = some fi88 := rfl
theorem g88 : cfg.given 88 = none := rfl
theorem F89 : cfg.fn 89 = some fi89 := rfl
theorem g89 : cfg.given 89 = none := rfl
theorem F91 : cfg.fn 91 = some fi91 := rfl
theorem g91 : cfg.given 91 = none := rfl
theorem F92 : cfg.fn 92 = some fi92 := rfl
theorem g92 : cfg.given 92 = none := rfl
theorem F93 : cfg.fn 93 = some fi93 := rfl
theorem g93 : cfg.given 93 = none := rfl
theorem F94 : cfg.fn 94 = some fi94 := rfl
theorem g94 : cfg.given 94 = none := rfl
theorem g56 : cfg.given 56 = some .bWrite := rfl
theorem g60 : cfg.given 60 = some .bString := rfl
theorem types_ok : (types.all fun p => tokB BT0 Try.prog p.1 p.2) = true := by kernel_rfl
theorem fok3 : FOK Try.prog cfg 3 fi3 := ⟨Try.f3, Try.func3, rfl, rfl, rfl, by kernel_rfl, by decide⟩
theorem fok4 : FOK Try.prog cfg 4 fi4 := ⟨Try.f4, Try.func4, rfl, rfl, rfl, by kernel_rfl, by decide⟩
theorem fok5 : FOK Try.prog cfg 5 fi5 := ⟨Try.f5, Try.func5, rfl, rfl, rfl, by kernel_rfl, by decide⟩
theorem fok6 : FOK Try.prog cfg 6 fi6 := ⟨Try.f6, Try.func6, rfl, rfl, rfl, by kernel_rfl, by decide⟩
theorem fok7 : FOK Try.prog cfg 7 fi7 := ⟨Try.f7, Try.func7, rfl, rfl, rfl, by kernel_rfl, by decide⟩
theorem fok8 : FOK Try.prog cfg 8 fi8 := ⟨Try.f8, Try.func8, rfl, rfl, rfl, by kernel_rfl, by decide⟩
theorem fok9 : FOK Try.prog cfg 9 fi9 := ⟨Try.f9, Try.func9, rfl, rfl, rfl, by kernel_rfl, by decide⟩
theorem fok10 : FOK Try.prog cfg 10 fi10 := ⟨Try.f10, Try.func10, rfl, rfl, rfl, by kernel_rfl, by decide⟩
theorem fok11 : FOK Try.prog cfg 11 fi11 := ⟨Try.f11, Try.func11, rfl, rfl, rfl, by kernel_rfl, by decide⟩
theorem fok12 : FOK Try.prog cfg 12 fi12 := ⟨Try.f12, Try.func12, rfl, rfl, rfl, by kernel_rfl, by decide⟩
theorem fok13 : FOK Try.prog cfg 13 fi13 := ⟨Try.f13, Try.func13, rfl, rfl, rfl, by kernel_rfl, by decide⟩
theorem fok14 : FOK Try.prog cfg 14 fi14 := ⟨Try.f14, Try.func14, rfl, rfl, rfl, by kernel_rfl, by decide⟩
theorem fok15 : FOK Try.prog cfg 15 fi15 := ⟨Try.f15, Try.func15, rfl, rfl, rfl, by kernel_rfl, by decide⟩
theorem fok16 : FOK Try.prog cfg 16 fi16 := ⟨Try.f16, Try.func16, rfl, rfl, rfl, by kernel_rfl, by decide⟩
theorem fok17 : FOK Try.prog cfg 17 fi17 := ⟨Try.f17, Try.func17, rfl, rfl, rfl, by kernel_rfl, by decide⟩
theorem fok18 : FOK Try.prog cfg 18 fi18 := ⟨Try.f18, Try.func18, rfl, rfl, rfl, by kernel_rfl, by decide⟩
theorem fok19 : FOK Try.prog cfg 19 fi19 := ⟨Try.f19, Try.func19, rfl, rfl, rfl, by kernel_rfl, by decide⟩
theorem fok20 : FOK Try.prog cfg 20 fi20 := ⟨Try.f20, Try.func20, rfl, rfl, rfl, by kernel_rfl, by decide⟩
theorem fok21 : FOK Try.prog cfg 21 fi21 := ⟨Try.f21, Try.func21, rfl, rfl, rfl, by kernel_rfl, by decide⟩
theorem fok22 : FOK Try.prog cfg 22 fi22 := ⟨Try.f22, Try.func22, rfl, rfl, rfl, by kernel_rfl, by decide⟩
theorem fok23 : FOK Try.prog cfg 23 fi23 := ⟨Try.f23, Try.func23, rfl, rfl, rfl, by kernel_rfl, by decide⟩
theorem fok24 : FOK Try.prog cfg 24 fi24 := ⟨Try.f24, Try.func24, rfl, rfl, rfl, by kernel_rfl, by decide⟩
theorem fok25 : FOK Try.prog cfg 25 fi25 := ⟨Try.f25, Try.func25, rfl, rfl, rfl, by kernel_rfl, by decide⟩
theorem fok26 : FOK Try.prog cfg 26 fi26 := ⟨Try.f26, Try.func26, rfl, rfl, rfl, by kernel_rfl, by decide⟩
theorem fok27 : FOK Try.prog cfg 27 fi27 := ⟨Try.f27, Try.func27, rfl, rfl, rfl, by kernel_rfl, by decide⟩
theorem fok28 : FOK Try.prog cfg 28 fi28 := ⟨Try.f28, Try.func28, rfl, rfl, rfl, by kernel_rfl, by decide⟩
theorem fok29 : FOK Try.prog cfg 29 fi29 := ⟨Try.f29, Try.func29, rfl, rfl, rfl, by kernel_rfl, by decide⟩
theorem fok30 : FOK Try.prog cfg 30 fi30 := ⟨Try.f30, Try.func30, rfl, rfl, rfl, by kernel_rfl, by decide⟩
theorem fok31 : FOK Try.prog cfg 31 fi31 := ⟨Try.f31, Try.func31, rfl, rfl, rfl, by kernel_rfl, by decide⟩
theorem fok32 : FOK Try.prog cfg 32 fi32 := ⟨Try.f32, Try.func32, rfl, rfl, rfl, by kernel_rfl, by decide⟩
theorem fok33 : FOK Try.prog cfg 33 fi33 := ⟨Try.f33, Try.func33, rfl, rfl, rfl, by kernel_rfl, by decide⟩
theorem fok34 : FOK Try.prog cfg 34 fi34 := ⟨Try.f34, Try.func34, rfl, rfl, rfl, by kernel_rfl, by decide⟩
theorem fok35 : FOK Try.prog cfg 35 fi35 := ⟨Try.f35, Try.func35, rfl, rfl, rfl, by kernel_rfl, by decide⟩
theorem fok36 : FOK Try.prog cfg 36 fi36 := ⟨Try.f36, Try.func36, rfl, rfl, rfl, by kernel_rfl, by decide⟩
theorem fok37 : FOK Try.prog cfg 37 fi37 := ⟨Try.f37, Try.func37, rfl, rfl, rfl, by kernel_rfl, by decide⟩
theorem fok38 : FOK Try.prog cfg 38 fi38 := ⟨Try.f38, Try.func38, rfl, rfl, rfl, by kernel_rfl, by decide⟩
theorem fok39 : FOK Try.prog cfg 39 fi39 := ⟨Try.f39, Try.func39, rfl, rfl, rfl, by kernel_rfl, by decide⟩
theorem fok40 : FOK Try.prog cfg 40 fi40 := ⟨Try.f40, Try.func40, rfl, rfl, rfl, by kernel_rfl, by decide⟩
theorem fok41 : FOK Try.prog cfg 41 fi41 := ⟨Try.f41, Try.func41, rfl, rfl, rfl, by kernel_rfl, by decide⟩
theorem fok42 : FOK Try.prog cfg 42 fi42 := ⟨Try.f42, Try.func42, rfl, rfl, rfl, by kernel_rfl, by decide⟩
theorem fok43 : FOK Try.prog cfg 43 fi43 := ⟨Try.f43, Try.func43, rfl, rfl, rfl, by kernel_rfl, by decide⟩
theorem fok44 : FOK Try.prog cfg 44 fi44 := ⟨Try.f44, Try.func44, rfl, rfl, rfl, by kernel_rfl, by decide⟩
theorem fok45 : FOK Try.prog cfg 45 fi45 := ⟨Try.f45, Try.func45, rfl, rfl, rfl, by kernel_rfl, by decide⟩
theorem fok46 : FOK Try.prog cfg 46 fi46 := ⟨Try.f46, Try.func46, rfl, rfl, rfl, by kernel_rfl, by decide⟩
theorem fok47 : FOK Try.prog cfg 47 fi47 := ⟨Try.f47, Try.func47, rfl, rfl, rfl, by kernel_rfl, by decide⟩
theorem fok48 : FOK Try.prog cfg 48 fi48 := ⟨Try.f48, Try.func48, rfl, rfl, rfl, by kernel_rfl, by decide⟩
theorem fok49 : FOK Try.prog cfg 49 fi49 := ⟨Try.f49, Try.func49, rfl, rfl, rfl, by kernel_rfl, by decide⟩
theorem fok50 : FOK Try.prog cfg 50 fi50 := ⟨Try.f50, Try.func50, rfl, rfl, rfl, by kernel_rfl, by decide⟩
theorem fok51 : FOK Try.prog cfg 51 fi51 := ⟨Try.f51, Try.func51, rfl, rfl, rfl, by kernel_rfl, by decide⟩
theorem fok52 : FOK Try.prog cfg 52 fi52 := ⟨Try.f52, Try.func52, rfl, rfl, rfl, by kernel_rfl, by decide⟩
theorem fok53 : FOK Try.prog cfg 53 fi53 := ⟨Try.f53, Try.func53, rfl, rfl, rfl, by kernel_rfl, by decide⟩
theorem fok54 : FOK Try.prog cfg 54 fi54 := ⟨Try.f54, Try.func54, rfl, rfl, rfl, by kernel_rfl, by decide⟩
theorem fok55 : FOK Try.prog cfg 55 fi55 := ⟨Try.f55, Try.func55, rfl, rfl, rfl, by kernel_rfl, by decide⟩
theorem fok57 : FOK Try.prog cfg 57 fi57 := ⟨Try.f57, Try.func57, rfl, rfl, rfl, by kernel_rfl, by decide⟩
theorem fok58 : FOK Try.prog cfg 58 fi58 := ⟨Try.f58, Try.func58, rfl, rfl, rfl, by kernel_rfl, by decide⟩
theorem fok59 : FOK Try.prog cfg 59 fi59 := ⟨Try.f59, Try.func59, rfl, rfl, rfl, by kernel_rfl, by decide⟩
theorem fok61 : FOK Try.prog cfg 61 fi61 := ⟨Try.f61, Try.func61, rfl, rfl, rfl, by kernel_rfl, by decide⟩
theorem fok62 : FOK Try.prog cfg 62 fi62 := ⟨Try.f62, Try.func62, rfl, rfl, rfl, by kernel_rfl, by decide⟩
theorem fok63 : FOK Try.prog cfg 63 fi63 := ⟨Try.f63, Try.func63, rfl, rfl, rfl, by kernel_rfl, by decide⟩
theorem fok64 : FOK Try.prog cfg 64 fi64 := ⟨Try.f64, Try.func64, rfl, rfl, rfl, by kernel_rfl, by decide⟩
theorem fok65 : FOK Try.prog cfg 65 fi65 := ⟨Try.f65, Try.func65, rfl, rfl, rfl, by kernel_rfl, by decide⟩
theorem fok66 : FOK Try.prog cfg 66 fi66 := ⟨Try.f66, Try.func66, rfl, rfl, rfl, by kernel_rfl, by decide⟩
theorem fok67 : FOK Try.prog cfg 67 fi67 := ⟨Try.f67, Try.func67, rfl, rfl, rfl, by kernel_rfl, by decide⟩
theorem fok68 : FOK Try.prog cfg 68 fi68 := ⟨Try.f68, Try.func68, rfl, rfl, rfl, by kernel_rfl, by decide⟩
theorem fok69 : FOK Try.prog cfg 69 fi69 := ⟨Try.f69, Try.func69, rfl, rfl, rfl, by kernel_rfl, by decide⟩
theorem fok70 : FOK Try.prog cfg 70 fi70 := ⟨Try.f70, Try.func70, rfl, rfl, rfl, by kernel_rfl, by decide⟩
theorem fok71 : FOK Try.prog cfg 71 fi71 := ⟨Try.f71, Try.func71, rfl, rfl, rfl, by kernel_rfl, by decide⟩
theorem fok72 : FOK Try.prog cfg 72 fi72 := ⟨Try.f72, Try.func72, rfl, rfl, rfl, by kernel_rfl, by decide⟩
theorem fok73 : FOK Try.prog cfg 73 fi73 := ⟨Try.f73, Try.func73, rfl, rfl, rfl, by kernel_rfl, by decide⟩
theorem fok74 : FOK Try.prog cfg 74 fi74 := ⟨Try.f74, Try.func74, rfl, rfl, rfl, by kernel_rfl, by decide⟩
theorem fok75 : FOK Try.prog cfg 75 fi75 := ⟨Try.f75, Try.func75, rfl, rfl, rfl, by kernel_rfl, by decide⟩
theorem fok76 : FOK Try.prog cfg 76 fi76 := ⟨Try.f76, Try.func76, rfl, rfl, rfl, by kernel_rfl, by decide⟩
theorem fok77 : FOK Try.prog cfg 77 fi77 := ⟨Try.f77, Try.func77, rfl, rfl, rfl, by kernel_rfl, by decide⟩
theorem fok78 : FOK Try.prog cfg 78 fi78 := ⟨Try.f78, Try.func78, rfl, rfl, rfl, by kernel_rfl, by decide⟩
theorem fok79 : FOK Try.prog cfg 79 fi79 := ⟨Try.f79, Try.func79, rfl, rfl, rfl, by kernel_rfl, by decide⟩
theorem fok80 : FOK Try.prog cfg 80 fi80 := ⟨Try.f80, Try.func80, rfl, rfl, rfl, by kernel_rfl, by decide⟩
theorem fok82 : FOK Try.prog cfg 82 fi82 := ⟨Try.f82, Try.func82, rfl, rfl, rfl, by kernel_rfl, by decide⟩
theorem fok83 : FOK Try.prog cfg 83 fi83 := ⟨Try.f83, Try.func83, rfl, rfl, rfl, by kernel_rfl, by decide⟩
theorem fok84 : FOK Try.prog cfg 84 fi84 := ⟨Try.f84, Try.func84, rfl, rfl, rfl, by kernel_rfl, by decide⟩
theorem fok85 : FOK Try.prog cfg 85 fi85 := ⟨Try.f85, Try.func85, rfl, rfl, rfl, by kernel_rfl, by decide⟩
theorem fok86 : FOK Try.prog cfg 86 fi86 := ⟨Try.f86, Try.func86, rfl, rfl, rfl, by kernel_rfl, by decide⟩
theorem fok87 : FOK Try.prog cfg 87 fi87 := ⟨Try.f87, Try.func87, rfl, rfl, rfl, by kernel_rfl, by decide⟩
theorem fok88 : FOK Try.prog cfg 88 fi88 := ⟨Try.f88, Try.func88, rfl, rfl, rfl, by kernel_rfl, by decide⟩
theorem fok89 : FOK Try.prog cfg 89 fi89 := ⟨Try.f89, Try.func89, rfl, rfl, rfl, by kernel_rfl, by decide⟩
theorem fok91 : FOK Try.prog cfg 91 fi91 := ⟨Try.f91, Try.func91, rfl, rfl, rfl, by kernel_rfl, by decide⟩
theorem fok92 : FOK Try.prog cfg 92 fi92 := ⟨Try.f92, Try.func92, rfl, rfl, rfl, by kernel_rfl, by decide⟩
theorem fok93 : FOK Try.prog cfg 93 fi93 := ⟨Try.f93, Try.func93, rfl, rfl, rfl, by kernel_rfl, by decide⟩
theorem fok94 : FOK Try.prog cfg 94 fi94 := ⟨Try.f94, Try.func94, rfl, rfl, rfl, by kernel_rfl, by decide⟩
theorem cok : COK BT0 Try.prog cfg where
  T := look_ok types_ok
  fn := lookF_ok (fun p hp => by
    simp only [fns, List.mem_cons, List.not_mem_nil, or_false] at hp
    rcases hp with rfl | rfl | rfl | rfl | rfl | rfl | rfl | rfl | rfl | rfl | rfl | rfl | rfl | rfl | rfl | rfl | rfl | rfl | rfl | rfl | rfl | rfl | rfl | rfl | rfl | rfl | rfl | rfl | rfl | rfl | rfl | rfl | rfl | rfl | rfl | rfl | rfl | rfl | rfl | rfl | rfl | rfl | rfl | rfl | rfl | rfl | rfl | rfl | rfl | rfl | rfl | rfl | rfl | rfl | rfl | rfl | rfl | rfl | rfl | rfl | rfl | rfl | rfl | rfl | rfl | rfl | rfl | rfl | rfl | rfl | rfl | rfl | rfl | rfl | rfl | rfl | rfl | rfl | rfl | rfl | rfl | rfl | rfl | rfl | rfl | rfl | rfl | rfl
    · exact fok3
    · exact fok4
    · exact fok5
    · exact fok6
    · exact fok7
    · exact fok8
    · exact fok9
    · exact fok10
    · exact fok11
    · exact fok12
    · exact fok13
    · exact fok14
    · exact fok15
    · exact fok16
    · exact fok17
    · exact fok18
    · exact fok19
    · exact fok20
    · exact fok21
    · exact fok22
    · exact fok23
    · exact fok24
    · exact fok25
    · exact fok26
    · exact fok27
    · exact fok28
    · exact fok29
    · exact fok30
    · exact fok31
    · exact fok32
    · exact fok33
    · exact fok34
    · exact fok35
    · exact fok36
    · exact fok37
    · exact fok38
    · exact fok39
    · exact fok40
    · exact fok41
    · exact fok42
    · exact fok43
    · exact fok44
    · exact fok45
    · exact fok46
    · exact fok47
    · exact fok48
    · exact fok49
    · exact fok50
    · exact fok51
    · exact fok52
    · exact fok53
    · exact fok54
    · exact fok55
    · exact fok57
    · exact fok58
    · exact fok59
    · exact fok61
    · exact fok62
    · exact fok63
    · exact fok64
    · exact fok65
    · exact fok66
    · exact fok67
    · exact fok68
    · exact fok69
    · exact fok70
    · exact fok71
    · exact fok72
    · exact fok73
    · exact fok74
    · exact fok75
    · exact fok76
    · exact fok77
    · exact fok78
    · exact fok79
    · exact fok80
    · exact fok82
    · exact fok83
    · exact fok84
    · exact fok85
    · exact fok86
    · exact fok87
    · exact fok88
    · exact fok89
    · exact fok91
    · exact fok92
    · exact fok93
    · exact fok94)
  given := fun f g h => by
    simp only [cfg, givens] at h
    split at h
    · rename_i e; subst e; cases h; exact given_bWrite
    split at h
    · rename_i e; subst e; cases h; exact given_bString
    cases h
  meth := fun t m f d h => by cases h
  mixed := by kernel_rfl
end Go.Proofs.Ytealccnfnpkngaa.X
