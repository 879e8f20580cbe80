/- The configuration of the simple machine for this seat, written by a program of this claim's (xcfg.py). -/
import Derived.Test.YtoljfmghcfdbpaaProg
import Derived.Test.YtoljfmghcfdbpaaL
import Derived.Test.YtoljfmghcfdbpaaW
set_option linter.unusedVariables false
set_option maxRecDepth 100000
namespace Go.Proofs.Ytoljfmghcfdbpaa.X
open Go Go.RowKit
def BT0 : BT := ⟨0, 5⟩
def types : List (TypeId × TI) := [
  (1, ⟨.func, 1, 8, .nilf⟩),
  (2, ⟨.int .i64, 1, 8, .int .i64 0⟩),
  (3, ⟨.int .i64, 1, 8, .int .i64 0⟩),
  (4, ⟨.bool, 1, 1, .bool false⟩),
  (5, ⟨.int .u8, 1, 1, .int .u8 0⟩),
  (9, ⟨.str, 1, 16, .str ⟨#[]⟩⟩),
  (12, ⟨.int .u64, 1, 8, .int .u64 0⟩),
  (15, ⟨.ptr, 1, 8, .nilp⟩),
  (16, ⟨.ptr, 1, 8, .nilp⟩),
  (17, ⟨.ptr, 1, 8, .nilp⟩),
  (20, ⟨.iface, 1, 16, .nili⟩),
  (21, ⟨.int .i32, 1, 4, .int .i32 0⟩),
  (22, ⟨.int .u64, 1, 8, .int .u64 0⟩),
  (23, ⟨.strct [(0, 22), (1, 22), (2, 22), (3, 22), (4, 22)], 5, 40, .agg [.int .u64 0, .int .u64 0, .int .u64 0, .int .u64 0, .int .u64 0]⟩),
  (24, ⟨.strct [(0, 22), (1, 22), (2, 22), (3, 22), (4, 22)], 5, 40, .agg [.int .u64 0, .int .u64 0, .int .u64 0, .int .u64 0, .int .u64 0]⟩),
  (26, ⟨.func, 1, 8, .nilf⟩),
  (27, ⟨.func, 1, 8, .nilf⟩),
  (28, ⟨.func, 1, 8, .nilf⟩),
  (29, ⟨.func, 1, 8, .nilf⟩),
  (30, ⟨.slice 22, 1, 24, .emp⟩),
  (31, ⟨.slice 24, 1, 24, .emp⟩),
  (32, ⟨.strct [(0, 30), (1, 22), (2, 31)], 3, 56, .agg [.emp, .int .u64 0, .emp]⟩),
  (33, ⟨.strct [(0, 30), (1, 22), (2, 31)], 3, 56, .agg [.emp, .int .u64 0, .emp]⟩),
  (34, ⟨.strct [(0, 24), (5, 22), (6, 22), (7, 22)], 8, 64, .agg [.int .u64 0, .int .u64 0, .int .u64 0, .int .u64 0, .int .u64 0, .int .u64 0, .int .u64 0, .int .u64 0]⟩),
  (35, ⟨.strct [(0, 24), (5, 22), (6, 22), (7, 22)], 8, 64, .agg [.int .u64 0, .int .u64 0, .int .u64 0, .int .u64 0, .int .u64 0, .int .u64 0, .int .u64 0, .int .u64 0]⟩),
  (36, ⟨.strct [(0, 33), (3, 35), (11, 22), (12, 22)], 13, 136, .agg [.emp, .int .u64 0, .emp, .int .u64 0, .int .u64 0, .int .u64 0, .int .u64 0, .int .u64 0, .int .u64 0, .int .u64 0, .int .u64 0, .int .u64 0, .int .u64 0]⟩),
  (37, ⟨.strct [(0, 33), (3, 35), (11, 22), (12, 22)], 13, 136, .agg [.emp, .int .u64 0, .emp, .int .u64 0, .int .u64 0, .int .u64 0, .int .u64 0, .int .u64 0, .int .u64 0, .int .u64 0, .int .u64 0, .int .u64 0, .int .u64 0]⟩),
  (38, ⟨.ptr, 1, 8, .nilp⟩),
  (40, ⟨.func, 1, 8, .nilf⟩),
  (41, ⟨.int .i64, 1, 8, .int .i64 0⟩),
  (42, ⟨.func, 1, 8, .nilf⟩),
  (43, ⟨.func, 1, 8, .nilf⟩),
  (44, ⟨.func, 1, 8, .nilf⟩),
  (45, ⟨.func, 1, 8, .nilf⟩),
  (46, ⟨.ptr, 1, 8, .nilp⟩),
  (47, ⟨.func, 1, 8, .nilf⟩),
  (48, ⟨.func, 1, 8, .nilf⟩),
  (49, ⟨.func, 1, 8, .nilf⟩),
  (50, ⟨.func, 1, 8, .nilf⟩),
  (51, ⟨.array 5 22, 5, 40, .agg [.int .u64 0, .int .u64 0, .int .u64 0, .int .u64 0, .int .u64 0]⟩),
  (53, ⟨.func, 1, 8, .nilf⟩),
  (54, ⟨.func, 1, 8, .nilf⟩),
  (55, ⟨.func, 1, 8, .nilf⟩),
  (56, ⟨.func, 1, 8, .nilf⟩),
  (57, ⟨.func, 1, 8, .nilf⟩),
  (58, ⟨.map 22 3, 1, 8, .nilm⟩),
  (59, ⟨.map 9 22, 1, 8, .nilm⟩),
  (60, ⟨.map 75 22, 1, 8, .nilm⟩),
  (61, ⟨.map 100 22, 1, 8, .nilm⟩),
  (62, ⟨.map 102 3, 1, 8, .nilm⟩),
  (63, ⟨.slice 9, 1, 24, .emp⟩),
  (64, ⟨.strct [(0, 30), (1, 3), (2, 4), (3, 58), (4, 58), (5, 59), (6, 60), (7, 61), (8, 62), (9, 63)], 10, 112, .agg [.emp, .int .i64 0, .bool false, .nilm, .nilm, .nilm, .nilm, .nilm, .nilm, .emp]⟩),
  (65, ⟨.strct [(0, 30), (1, 3), (2, 4), (3, 58), (4, 58), (5, 59), (6, 60), (7, 61), (8, 62), (9, 63)], 10, 112, .agg [.emp, .int .i64 0, .bool false, .nilm, .nilm, .nilm, .nilm, .nilm, .nilm, .emp]⟩),
  (66, ⟨.slice 79, 1, 24, .emp⟩),
  (67, ⟨.strct [(0, 30), (1, 66), (2, 30), (3, 3)], 4, 80, .agg [.emp, .emp, .emp, .int .i64 0]⟩),
  (68, ⟨.strct [(0, 30), (1, 66), (2, 30), (3, 3)], 4, 80, .agg [.emp, .emp, .emp, .int .i64 0]⟩),
  (69, ⟨.func, 1, 8, .nilf⟩),
  (70, ⟨.slice 5, 1, 24, .emp⟩),
  (71, ⟨.func, 1, 8, .nilf⟩),
  (72, ⟨.func, 1, 8, .nilf⟩),
  (74, ⟨.strct [(0, 22), (1, 9)], 2, 24, .agg [.int .u64 0, .str ⟨#[]⟩]⟩),
  (75, ⟨.strct [(0, 22), (1, 9)], 2, 24, .agg [.int .u64 0, .str ⟨#[]⟩]⟩),
  (76, ⟨.func, 1, 8, .nilf⟩),
  (77, ⟨.func, 1, 8, .nilf⟩),
  (78, ⟨.strct [(0, 3), (1, 22), (2, 22), (3, 9), (4, 9), (5, 22)], 6, 64, .agg [.int .i64 0, .int .u64 0, .int .u64 0, .str ⟨#[]⟩, .str ⟨#[]⟩, .int .u64 0]⟩),
  (79, ⟨.strct [(0, 3), (1, 22), (2, 22), (3, 9), (4, 9), (5, 22)], 6, 64, .agg [.int .i64 0, .int .u64 0, .int .u64 0, .str ⟨#[]⟩, .str ⟨#[]⟩, .int .u64 0]⟩),
  (80, ⟨.func, 1, 8, .nilf⟩),
  (81, ⟨.int .u64, 1, 8, .int .u64 0⟩),
  (82, ⟨.func, 1, 8, .nilf⟩),
  (83, ⟨.func, 1, 8, .nilf⟩),
  (84, ⟨.func, 1, 8, .nilf⟩),
  (90, ⟨.int .u32, 1, 4, .int .u32 0⟩),
  (93, ⟨.func, 1, 8, .nilf⟩),
  (94, ⟨.ptr, 1, 8, .nilp⟩),
  (99, ⟨.strct [(0, 22), (1, 22), (2, 9), (3, 9)], 4, 48, .agg [.int .u64 0, .int .u64 0, .str ⟨#[]⟩, .str ⟨#[]⟩]⟩),
  (100, ⟨.strct [(0, 22), (1, 22), (2, 9), (3, 9)], 4, 48, .agg [.int .u64 0, .int .u64 0, .str ⟨#[]⟩, .str ⟨#[]⟩]⟩),
  (101, ⟨.strct [(0, 22), (1, 22), (2, 22), (3, 9)], 4, 40, .agg [.int .u64 0, .int .u64 0, .int .u64 0, .str ⟨#[]⟩]⟩),
  (102, ⟨.strct [(0, 22), (1, 22), (2, 22), (3, 9)], 4, 40, .agg [.int .u64 0, .int .u64 0, .int .u64 0, .str ⟨#[]⟩]⟩)]
/-- countersign/countersignlaw07.TokenTexts -/
noncomputable def b3 : Code := Try.f3.body.getD .skip
noncomputable def fi3 : FI := ⟨b3, 71, [.tmp 4], .pure⟩
/-- countersign/countersignlaw07.TokenEpochs -/
noncomputable def b4 : Code := Try.f4.body.getD .skip
noncomputable def fi4 : FI := ⟨b4, 111, [.tmp 2], .pure⟩
/-- countersign/countersignlaw07.TokenForged -/
noncomputable def b5 : Code := Try.f5.body.getD .skip
noncomputable def fi5 : FI := ⟨b5, 50, [.tmp 4], .pure⟩
/-- countersign/countersignlaw07.TokenApart -/
noncomputable def b6 : Code := Try.f6.body.getD .skip
noncomputable def fi6 : FI := ⟨b6, 51, [.tmp 2], .pure⟩
/-- countersign/countersignlaw07.TokenChecks -/
noncomputable def b7 : Code := Try.f7.body.getD .skip
noncomputable def fi7 : FI := ⟨b7, 83, [.tmp 4], .pure⟩
/-- countersign/token.Parse -/
noncomputable def b8 : Code := Try.f8.body.getD .skip
noncomputable def fi8 : FI := ⟨b8, 40, [.cell 2 24, .tmp 3], .pure⟩
/-- countersign/countersignref07.Parse -/
noncomputable def b9 : Code := Try.f9.body.getD .skip
noncomputable def fi9 : FI := ⟨b9, 45, [.cell 2 24, .tmp 3], .pure⟩
/-- countersign/token.Pack -/
noncomputable def b10 : Code := Try.f10.body.getD .skip
noncomputable def fi10 : FI := ⟨b10, 9, [.tmp 2], .pure⟩
/-- countersign/countersignlaw07.fixed -/
noncomputable def b11 : Code := Try.f11.body.getD .skip
noncomputable def fi11 : FI := ⟨b11, 39, [.tmp 0], .pure⟩
/-- countersign/countersignref07.Pack -/
noncomputable def b12 : Code := Try.f12.body.getD .skip
noncomputable def fi12 : FI := ⟨b12, 9, [.tmp 2], .pure⟩
/-- countersign/token.Text -/
noncomputable def b13 : Code := Try.f13.body.getD .skip
noncomputable def fi13 : FI := ⟨b13, 6, [.tmp 2], .pure⟩
/-- countersign/countersignref07.Said -/
noncomputable def b14 : Code := Try.f14.body.getD .skip
noncomputable def fi14 : FI := ⟨b14, 18, [.tmp 2], .pure⟩
/-- countersign/countersignlaw07.issued -/
noncomputable def b15 : Code := Try.f15.body.getD .skip
noncomputable def fi15 : FI := ⟨b15, 45, [.tmp 2, .tmp 3], .keep⟩
/-- countersign/token.Check -/
noncomputable def b16 : Code := Try.f16.body.getD .skip
noncomputable def fi16 : FI := ⟨b16, 38, [.tmp 12], .keep⟩
/-- (*countersign/ideal.Oracle).Bad -/
noncomputable def b17 : Code := Try.f17.body.getD .skip
noncomputable def fi17 : FI := ⟨b17, 7, [.tmp 2], .keep⟩
/-- countersign/countersignref03.New -/
noncomputable def b18 : Code := Try.f18.body.getD .skip
noncomputable def fi18 : FI := ⟨b18, 8, [.tmp 2], .keep⟩
/-- countersign/countersignref07.Issue -/
noncomputable def b19 : Code := Try.f19.body.getD .skip
noncomputable def fi19 : FI := ⟨b19, 15, [.cell 6 24], .keep⟩
/-- countersign/countersignref07.Check -/
noncomputable def b20 : Code := Try.f20.body.getD .skip
noncomputable def fi20 : FI := ⟨b20, 52, [.tmp 12], .keep⟩
/-- (*countersign/ideal.Oracle).Drawn -/
noncomputable def b21 : Code := Try.f21.body.getD .skip
noncomputable def fi21 : FI := ⟨b21, 7, [.tmp 2], .keep⟩
/-- (*countersign/countersignref03.Oracle).Drawn -/
noncomputable def b22 : Code := Try.f22.body.getD .skip
noncomputable def fi22 : FI := ⟨b22, 8, [.tmp 2], .keep⟩
/-- (*countersign/countersignref03.Oracle).Bad -/
noncomputable def b23 : Code := Try.f23.body.getD .skip
noncomputable def fi23 : FI := ⟨b23, 8, [.tmp 2], .keep⟩
/-- countersign/wire.TakeUint -/
noncomputable def b24 : Code := Try.f24.body.getD .skip
noncomputable def fi24 : FI := ⟨b24, 44, [.tmp 2, .tmp 3, .tmp 4], .pure⟩
/-- countersign/countersignref01.TakeUint -/
noncomputable def b25 : Code := Try.f25.body.getD .skip
noncomputable def fi25 : FI := ⟨b25, 45, [.tmp 2, .tmp 3, .tmp 4], .pure⟩
/-- countersign/token.fields -/
noncomputable def b26 : Code := Try.f26.body.getD .skip
noncomputable def fi26 : FI := ⟨b26, 18, [.tmp 2], .pure⟩
/-- countersign/wire.PutUint -/
noncomputable def b27 : Code := Try.f27.body.getD .skip
noncomputable def fi27 : FI := ⟨b27, 6, [.tmp 2], .pure⟩
/-- countersign/ideal.New -/
noncomputable def b28 : Code := Try.f28.body.getD .skip
noncomputable def fi28 : FI := ⟨b28, 13, [.tmp 2], .keep⟩
/-- countersign/token.Issue -/
noncomputable def b29 : Code := Try.f29.body.getD .skip
noncomputable def fi29 : FI := ⟨b29, 26, [.cell 12 24], .keep⟩
/-- countersign/countersignref01.PutUint -/
noncomputable def b30 : Code := Try.f30.body.getD .skip
noncomputable def fi30 : FI := ⟨b30, 23, [.tmp 2], .pure⟩
/-- (*countersign/ideal.Oracle).Verify -/
noncomputable def b31 : Code := Try.f31.body.getD .skip
noncomputable def fi31 : FI := ⟨b31, 31, [.tmp 8], .keep⟩
/-- (*countersign/countersignref03.Oracle).Mac -/
noncomputable def b32 : Code := Try.f32.body.getD .skip
noncomputable def fi32 : FI := ⟨b32, 12, [.tmp 6], .keep⟩
/-- (*countersign/countersignref03.Oracle).Verify -/
noncomputable def b33 : Code := Try.f33.body.getD .skip
noncomputable def fi33 : FI := ⟨b33, 32, [.tmp 8], .keep⟩
/-- countersign/wire.put -/
noncomputable def b34 : Code := Try.f34.body.getD .skip
noncomputable def fi34 : FI := ⟨b34, 20, [.tmp 4], .keep⟩
/-- slices.Clone[[]uint64,uint64] -/
noncomputable def b35 : Code := Try.f35.body.getD .skip
noncomputable def fi35 : FI := ⟨b35, 8, [.tmp 2], .clone⟩
/-- (*countersign/ideal.Oracle).Mac -/
noncomputable def b36 : Code := Try.f36.body.getD .skip
noncomputable def fi36 : FI := ⟨b36, 33, [.tmp 6], .keep⟩
/-- (*countersign/ideal.Oracle).Meet -/
noncomputable def b37 : Code := Try.f37.body.getD .skip
noncomputable def fi37 : FI := ⟨b37, 16, [], .keep⟩
/-- (*countersign/countersignref03.Oracle).value -/
noncomputable def b38 : Code := Try.f38.body.getD .skip
noncomputable def fi38 : FI := ⟨b38, 22, [.tmp 4], .keep⟩
/-- (*countersign/countersignref03.Oracle).at -/
noncomputable def b39 : Code := Try.f39.body.getD .skip
noncomputable def fi39 : FI := ⟨b39, 62, [.tmp 4], .keep⟩
/-- (*countersign/countersignref03.Oracle).Meet -/
noncomputable def b40 : Code := Try.f40.body.getD .skip
noncomputable def fi40 : FI := ⟨b40, 18, [], .keep⟩
/-- (*countersign/ideal.Oracle).Fresh -/
noncomputable def b41 : Code := Try.f41.body.getD .skip
noncomputable def fi41 : FI := ⟨b41, 68, [.tmp 2], .keep⟩
/-- (*countersign/countersignref03.Oracle).draw -/
noncomputable def b42 : Code := Try.f42.body.getD .skip
noncomputable def fi42 : FI := ⟨b42, 64, [.tmp 4], .keep⟩
/-- (*countersign/countersignref03.Oracle).Issued -/
noncomputable def b43 : Code := Try.f43.body.getD .skip
noncomputable def fi43 : FI := ⟨b43, 25, [.tmp 4], .keep⟩
/-- (*countersign/countersignref03.Oracle).Shown -/
noncomputable def b44 : Code := Try.f44.body.getD .skip
noncomputable def fi44 : FI := ⟨b44, 24, [.tmp 4], .keep⟩
noncomputable def fns : List (FuncId × FI) := [(3, fi3), (4, fi4), (5, fi5), (6, fi6), (7, fi7), (8, fi8), (9, fi9), (10, fi10), (11, fi11), (12, fi12), (13, fi13), (14, fi14), (15, fi15), (16, fi16), (17, fi17), (18, fi18), (19, fi19), (20, fi20), (21, fi21), (22, fi22), (23, fi23), (24, fi24), (25, fi25), (26, fi26), (27, fi27), (28, fi28), (29, fi29), (30, fi30), (31, fi31), (32, fi32), (33, fi33), (34, fi34), (35, fi35), (36, fi36), (37, fi37), (38, fi38), (39, fi39), (40, fi40), (41, fi41), (42, fi42), (43, fi43), (44, fi44)]
def givens (f : FuncId) : Option Given := none
def flags (i n d : Nat) : List Tmp := bif Nat.beq i 1 && Nat.beq n 14 && Nat.beq d 6 then [1] else bif Nat.beq i 6 && Nat.beq n 14 && Nat.beq d 38 then [6] else []
noncomputable def cfg : Cfg := ⟨look types, lookF fns, givens, fun _ _ => none, flags⟩
theorem T1 : cfg.T 1 = some ⟨.func, 1, 8, .nilf⟩ := rfl
theorem T2 : cfg.T 2 = some ⟨.int .i64, 1, 8, .int .i64 0⟩ := rfl
theorem T3 : cfg.T 3 = some ⟨.int .i64, 1, 8, .int .i64 0⟩ := rfl
theorem T4 : cfg.T 4 = some ⟨.bool, 1, 1, .bool false⟩ := rfl
theorem T5 : cfg.T 5 = some ⟨.int .u8, 1, 1, .int .u8 0⟩ := rfl
theorem T9 : cfg.T 9 = some ⟨.str, 1, 16, .str ⟨#[]⟩⟩ := rfl
theorem T12 : cfg.T 12 = some ⟨.int .u64, 1, 8, .int .u64 0⟩ := rfl
theorem T15 : cfg.T 15 = some ⟨.ptr, 1, 8, .nilp⟩ := rfl
theorem T16 : cfg.T 16 = some ⟨.ptr, 1, 8, .nilp⟩ := rfl
theorem T17 : cfg.T 17 = some ⟨.ptr, 1, 8, .nilp⟩ := rfl
theorem T20 : cfg.T 20 = some ⟨.iface, 1, 16, .nili⟩ := rfl
theorem T21 : cfg.T 21 = some ⟨.int .i32, 1, 4, .int .i32 0⟩ := rfl
theorem T22 : cfg.T 22 = some ⟨.int .u64, 1, 8, .int .u64 0⟩ := rfl
theorem T23 : cfg.T 23 = some ⟨.strct [(0, 22), (1, 22), (2, 22), (3, 22), (4, 22)], 5, 40, .agg [.int .u64 0, .int .u64 0, .int .u64 0, .int .u64 0, .int .u64 0]⟩ := rfl
theorem T24 : cfg.T 24 = some ⟨.strct [(0, 22), (1, 22), (2, 22), (3, 22), (4, 22)], 5, 40, .agg [.int .u64 0, .int .u64 0, .int .u64 0, .int .u64 0, .int .u64 0]⟩ := rfl
theorem T26 : cfg.T 26 = some ⟨.func, 1, 8, .nilf⟩ := rfl
theorem T27 : cfg.T 27 = some ⟨.func, 1, 8, .nilf⟩ := rfl
theorem T28 : cfg.T 28 = some ⟨.func, 1, 8, .nilf⟩ := rfl
theorem T29 : cfg.T 29 = some ⟨.func, 1, 8, .nilf⟩ := rfl
theorem T30 : cfg.T 30 = some ⟨.slice 22, 1, 24, .emp⟩ := rfl
theorem T31 : cfg.T 31 = some ⟨.slice 24, 1, 24, .emp⟩ := rfl
theorem T32 : cfg.T 32 = some ⟨.strct [(0, 30), (1, 22), (2, 31)], 3, 56, .agg [.emp, .int .u64 0, .emp]⟩ := rfl
theorem T33 : cfg.T 33 = some ⟨.strct [(0, 30), (1, 22), (2, 31)], 3, 56, .agg [.emp, .int .u64 0, .emp]⟩ := rfl
theorem T34 : cfg.T 34 = some ⟨.strct [(0, 24), (5, 22), (6, 22), (7, 22)], 8, 64, .agg [.int .u64 0, .int .u64 0, .int .u64 0, .int .u64 0, .int .u64 0, .int .u64 0, .int .u64 0, .int .u64 0]⟩ := rfl
theorem T35 : cfg.T 35 = some ⟨.strct [(0, 24), (5, 22), (6, 22), (7, 22)], 8, 64, .agg [.int .u64 0, .int .u64 0, .int .u64 0, .int .u64 0, .int .u64 0, .int .u64 0, .int .u64 0, .int .u64 0]⟩ := rfl
theorem T36 : cfg.T 36 = some ⟨.strct [(0, 33), (3, 35), (11, 22), (12, 22)], 13, 136, .agg [.emp, .int .u64 0, .emp, .int .u64 0, .int .u64 0, .int .u64 0, .int .u64 0, .int .u64 0, .int .u64 0, .int .u64 0, .int .u64 0, .int .u64 0, .int .u64 0]⟩ := rfl
theorem T37 : cfg.T 37 = some ⟨.strct [(0, 33), (3, 35), (11, 22), (12, 22)], 13, 136, .agg [.emp, .int .u64 0, .emp, .int .u64 0, .int .u64 0, .int .u64 0, .int .u64 0, .int .u64 0, .int .u64 0, .int .u64 0, .int .u64 0, .int .u64 0, .int .u64 0]⟩ := rfl
theorem T38 : cfg.T 38 = some ⟨.ptr, 1, 8, .nilp⟩ := rfl
theorem T40 : cfg.T 40 = some ⟨.func, 1, 8, .nilf⟩ := rfl
theorem T41 : cfg.T 41 = some ⟨.int .i64, 1, 8, .int .i64 0⟩ := rfl
theorem T42 : cfg.T 42 = some ⟨.func, 1, 8, .nilf⟩ := rfl
theorem T43 : cfg.T 43 = some ⟨.func, 1, 8, .nilf⟩ := rfl
theorem T44 : cfg.T 44 = some ⟨.func, 1, 8, .nilf⟩ := rfl
theorem T45 : cfg.T 45 = some ⟨.func, 1, 8, .nilf⟩ := rfl
theorem T46 : cfg.T 46 = some ⟨.ptr, 1, 8, .nilp⟩ := rfl
theorem T47 : cfg.T 47 = some ⟨.func, 1, 8, .nilf⟩ := rfl
theorem T48 : cfg.T 48 = some ⟨.func, 1, 8, .nilf⟩ := rfl
theorem T49 : cfg.T 49 = some ⟨.func, 1, 8, .nilf⟩ := rfl
theorem T50 : cfg.T 50 = some ⟨.func, 1, 8, .nilf⟩ := rfl
theorem T51 : cfg.T 51 = some ⟨.array 5 22, 5, 40, .agg [.int .u64 0, .int .u64 0, .int .u64 0, .int .u64 0, .int .u64 0]⟩ := rfl
theorem T53 : cfg.T 53 = some ⟨.func, 1, 8, .nilf⟩ := rfl
theorem T54 : cfg.T 54 = some ⟨.func, 1, 8, .nilf⟩ := rfl
theorem T55 : cfg.T 55 = some ⟨.func, 1, 8, .nilf⟩ := rfl
theorem T56 : cfg.T 56 = some ⟨.func, 1, 8, .nilf⟩ := rfl
theorem T57 : cfg.T 57 = some ⟨.func, 1, 8, .nilf⟩ := rfl
theorem T58 : cfg.T 58 = some ⟨.map 22 3, 1, 8, .nilm⟩ := rfl
theorem T59 : cfg.T 59 = some ⟨.map 9 22, 1, 8, .nilm⟩ := rfl
theorem T60 : cfg.T 60 = some ⟨.map 75 22, 1, 8, .nilm⟩ := rfl
theorem T61 : cfg.T 61 = some ⟨.map 100 22, 1, 8, .nilm⟩ := rfl
theorem T62 : cfg.T 62 = some ⟨.map 102 3, 1, 8, .nilm⟩ := rfl
theorem T63 : cfg.T 63 = some ⟨.slice 9, 1, 24, .emp⟩ := rfl
theorem T64 : cfg.T 64 = some ⟨.strct [(0, 30), (1, 3), (2, 4), (3, 58), (4, 58), (5, 59), (6, 60), (7, 61), (8, 62), (9, 63)], 10, 112, .agg [.emp, .int .i64 0, .bool false, .nilm, .nilm, .nilm, .nilm, .nilm, .nilm, .emp]⟩ := rfl
theorem T65 : cfg.T 65 = some ⟨.strct [(0, 30), (1, 3), (2, 4), (3, 58), (4, 58), (5, 59), (6, 60), (7, 61), (8, 62), (9, 63)], 10, 112, .agg [.emp, .int .i64 0, .bool false, .nilm, .nilm, .nilm, .nilm, .nilm, .nilm, .emp]⟩ := rfl
theorem T66 : cfg.T 66 = some ⟨.slice 79, 1, 24, .emp⟩ := rfl
theorem T67 : cfg.T 67 = some ⟨.strct [(0, 30), (1, 66), (2, 30), (3, 3)], 4, 80, .agg [.emp, .emp, .emp, .int .i64 0]⟩ := rfl
theorem T68 : cfg.T 68 = some ⟨.strct [(0, 30), (1, 66), (2, 30), (3, 3)], 4, 80, .agg [.emp, .emp, .emp, .int .i64 0]⟩ := rfl
theorem T69 : cfg.T 69 = some ⟨.func, 1, 8, .nilf⟩ := rfl
theorem T70 : cfg.T 70 = some ⟨.slice 5, 1, 24, .emp⟩ := rfl
theorem T71 : cfg.T 71 = some ⟨.func, 1, 8, .nilf⟩ := rfl
theorem T72 : cfg.T 72 = some ⟨.func, 1, 8, .nilf⟩ := rfl
theorem T74 : cfg.T 74 = some ⟨.strct [(0, 22), (1, 9)], 2, 24, .agg [.int .u64 0, .str ⟨#[]⟩]⟩ := rfl
theorem T75 : cfg.T 75 = some ⟨.strct [(0, 22), (1, 9)], 2, 24, .agg [.int .u64 0, .str ⟨#[]⟩]⟩ := rfl
theorem T76 : cfg.T 76 = some ⟨.func, 1, 8, .nilf⟩ := rfl
theorem T77 : cfg.T 77 = some ⟨.func, 1, 8, .nilf⟩ := rfl
theorem T78 : cfg.T 78 = some ⟨.strct [(0, 3), (1, 22), (2, 22), (3, 9), (4, 9), (5, 22)], 6, 64, .agg [.int .i64 0, .int .u64 0, .int .u64 0, .str ⟨#[]⟩, .str ⟨#[]⟩, .int .u64 0]⟩ := rfl
theorem T79 : cfg.T 79 = some ⟨.strct [(0, 3), (1, 22), (2, 22), (3, 9), (4, 9), (5, 22)], 6, 64, .agg [.int .i64 0, .int .u64 0, .int .u64 0, .str ⟨#[]⟩, .str ⟨#[]⟩, .int .u64 0]⟩ := rfl
theorem T80 : cfg.T 80 = some ⟨.func, 1, 8, .nilf⟩ := rfl
theorem T81 : cfg.T 81 = some ⟨.int .u64, 1, 8, .int .u64 0⟩ := rfl
theorem T82 : cfg.T 82 = some ⟨.func, 1, 8, .nilf⟩ := rfl
theorem T83 : cfg.T 83 = some ⟨.func, 1, 8, .nilf⟩ := rfl
theorem T84 : cfg.T 84 = some ⟨.func, 1, 8, .nilf⟩ := rfl
theorem T90 : cfg.T 90 = some ⟨.int .u32, 1, 4, .int .u32 0⟩ := rfl
theorem T93 : cfg.T 93 = some ⟨.func, 1, 8, .nilf⟩ := rfl
theorem T94 : cfg.T 94 = some ⟨.ptr, 1, 8, .nilp⟩ := rfl
theorem T99 : cfg.T 99 = some ⟨.strct [(0, 22), (1, 22), (2, 9), (3, 9)], 4, 48, .agg [.int .u64 0, .int .u64 0, .str ⟨#[]⟩, .str ⟨#[]⟩]⟩ := rfl
theorem T100 : cfg.T 100 = some ⟨.strct [(0, 22), (1, 22), (2, 9), (3, 9)], 4, 48, .agg [.int .u64 0, .int .u64 0, .str ⟨#[]⟩, .str ⟨#[]⟩]⟩ := rfl
theorem T101 : cfg.T 101 = some ⟨.strct [(0, 22), (1, 22), (2, 22), (3, 9)], 4, 40, .agg [.int .u64 0, .int .u64 0, .int .u64 0, .str ⟨#[]⟩]⟩ := rfl
theorem T102 : cfg.T 102 = some ⟨.strct [(0, 22), (1, 22), (2, 22), (3, 9)], 4, 40, .agg [.int .u64 0, .int .u64 0, .int .u64 0, .str ⟨#[]⟩]⟩ := rfl
theorem F3 : cfg.fn 3 = some fi3 := rfl
theorem g3 : cfg.given 3 = none := rfl
theorem F4 : cfg.fn 4 = some fi4 := rfl
theorem g4 : cfg.given 4 = none := rfl
theorem F5 : cfg.fn 5 = some fi5 := rfl
theorem g5 : cfg.given 5 = none := rfl
theorem F6 : cfg.fn 6 = some fi6 := rfl
theorem g6 : cfg.given 6 = none := rfl
theorem F7 : cfg.fn 7 = some fi7 := rfl
theorem g7 : cfg.given 7 = none := rfl
theorem F8 : cfg.fn 8 = some fi8 := rfl
theorem g8 : cfg.given 8 = none := rfl
theorem F9 : cfg.fn 9 = some fi9 := rfl
theorem g9 : cfg.given 9 = none := rfl
theorem F10 : cfg.fn 10 = some fi10 := rfl
theorem g10 : cfg.given 10 = none := rfl
theorem F11 : cfg.fn 11 = some fi11 := rfl
theorem g11 : cfg.given 11 = none := rfl
theorem F12 : cfg.fn 12 = some fi12 := rfl
theorem g12 : cfg.given 12 = none := rfl
theorem F13 : cfg.fn 13 = some fi13 := rfl
theorem g13 : cfg.given 13 = none := rfl
theorem F14 : cfg.fn 14 = some fi14 := rfl
theorem g14 : cfg.given 14 = none := rfl
theorem F15 : cfg.fn 15 = some fi15 := rfl
theorem g15 : cfg.given 15 = none := rfl
theorem F16 : cfg.fn 16 = some fi16 := rfl
theorem g16 : cfg.given 16 = none := rfl
theorem F17 : cfg.fn 17 = some fi17 := rfl
theorem g17 : cfg.given 17 = none := rfl
theorem F18 : cfg.fn 18 = some fi18 := rfl
theorem g18 : cfg.given 18 = none := rfl
theorem F19 : cfg.fn 19 = some fi19 := rfl
theorem g19 : cfg.given 19 = none := rfl
theorem F20 : cfg.fn 20 = some fi20 := rfl
theorem g20 : cfg.given 20 = none := rfl
theorem F21 : cfg.fn 21 = some fi21 := rfl
theorem g21 : cfg.given 21 = none := rfl
theorem F22 : cfg.fn 22 = some fi22 := rfl
theorem g22 : cfg.given 22 = none := rfl
theorem F23 : cfg.fn 23 = some fi23 := rfl
theorem g23 : cfg.given 23 = none := rfl
theorem F24 : cfg.fn 24 = some fi24 := rfl
theorem g24 : cfg.given 24 = none := rfl
theorem F25 : cfg.fn 25 = some fi25 := rfl
theorem g25 : cfg.given 25 = none := rfl
theorem F26 : cfg.fn 26 = some fi26 := rfl
theorem g26 : cfg.given 26 = none := rfl
theorem F27 : cfg.fn 27 = some fi27 := rfl
theorem g27 : cfg.given 27 = none := rfl
theorem F28 : cfg.fn 28 = some fi28 := rfl
theorem g28 : cfg.given 28 = none := rfl
theorem F29 : cfg.fn 29 = some fi29 := rfl
theorem g29 : cfg.given 29 = none := rfl
theorem F30 : cfg.fn 30 = some fi30 := rfl
theorem g30 : cfg.given 30 = none := rfl
theorem F31 : cfg.fn 31 = some fi31 := rfl
theorem g31 : cfg.given 31 = none := rfl
theorem F32 : cfg.fn 32 = some fi32 := rfl
theorem g32 : cfg.given 32 = none := rfl
theorem F33 : cfg.fn 33 = some fi33 := rfl
theorem g33 : cfg.given 33 = none := rfl
theorem F34 : cfg.fn 34 = some fi34 := rfl
theorem g34 : cfg.given 34 = none := rfl
theorem F35 : cfg.fn 35 = some fi35 := rfl
theorem g35 : cfg.given 35 = none := rfl
theorem F36 : cfg.fn 36 = some fi36 := rfl
theorem g36 : cfg.given 36 = none := rfl
theorem F37 : cfg.fn 37 = some fi37 := rfl
theorem g37 : cfg.given 37 = none := rfl
theorem F38 : cfg.fn 38 = some fi38 := rfl
theorem g38 : cfg.given 38 = none := rfl
theorem F39 : cfg.fn 39 = some fi39 := rfl
theorem g39 : cfg.given 39 = none := rfl
theorem F40 : cfg.fn 40 = some fi40 := rfl
theorem g40 : cfg.given 40 = none := rfl
theorem F41 : cfg.fn 41 = some fi41 := rfl
theorem g41 : cfg.given 41 = none := rfl
theorem F42 : cfg.fn 42 = some fi42 := rfl
theorem g42 : cfg.given 42 = none := rfl
theorem F43 : cfg.fn 43 = some fi43 := rfl
theorem g43 : cfg.given 43 = none := rfl
theorem F44 : cfg.fn 44 = some fi44 := rfl
theorem g44 : cfg.given 44 = none := rfl
theorem types_ok : (types.all fun p => tokB BT0 Try.prog p.1 p.2) = true := by kernel_rfl
theorem fok3 : FOK Try.prog cfg 3 fi3 := ⟨Try.f3, Try.func3, rfl, rfl, rfl, by kernel_rfl, by decide⟩
theorem fok4 : FOK Try.prog cfg 4 fi4 := ⟨Try.f4, Try.func4, rfl, rfl, rfl, by kernel_rfl, by decide⟩
theorem fok5 : FOK Try.prog cfg 5 fi5 := ⟨Try.f5, Try.func5, rfl, rfl, rfl, by kernel_rfl, by decide⟩
theorem fok6 : FOK Try.prog cfg 6 fi6 := ⟨Try.f6, Try.func6, rfl, rfl, rfl, by kernel_rfl, by decide⟩
theorem fok7 : FOK Try.prog cfg 7 fi7 := ⟨Try.f7, Try.func7, rfl, rfl, rfl, by kernel_rfl, by decide⟩
theorem fok8 : FOK Try.prog cfg 8 fi8 := ⟨Try.f8, Try.func8, rfl, rfl, rfl, by kernel_rfl, by decide⟩
theorem fok9 : FOK Try.prog cfg 9 fi9 := ⟨Try.f9, Try.func9, rfl, rfl, rfl, by kernel_rfl, by decide⟩
theorem fok10 : FOK Try.prog cfg 10 fi10 := ⟨Try.f10, Try.func10, rfl, rfl, rfl, by kernel_rfl, by decide⟩
theorem fok11 : FOK Try.prog cfg 11 fi11 := ⟨Try.f11, Try.func11, rfl, rfl, rfl, by kernel_rfl, by decide⟩
theorem fok12 : FOK Try.prog cfg 12 fi12 := ⟨Try.f12, Try.func12, rfl, rfl, rfl, by kernel_rfl, by decide⟩
theorem fok13 : FOK Try.prog cfg 13 fi13 := ⟨Try.f13, Try.func13, rfl, rfl, rfl, by kernel_rfl, by decide⟩
theorem fok14 : FOK Try.prog cfg 14 fi14 := ⟨Try.f14, Try.func14, rfl, rfl, rfl, by kernel_rfl, by decide⟩
theorem fok15 : FOK Try.prog cfg 15 fi15 := ⟨Try.f15, Try.func15, rfl, rfl, rfl, by kernel_rfl, by decide⟩
theorem fok16 : FOK Try.prog cfg 16 fi16 := ⟨Try.f16, Try.func16, rfl, rfl, rfl, by kernel_rfl, by decide⟩
theorem fok17 : FOK Try.prog cfg 17 fi17 := ⟨Try.f17, Try.func17, rfl, rfl, rfl, by kernel_rfl, by decide⟩
theorem fok18 : FOK Try.prog cfg 18 fi18 := ⟨Try.f18, Try.func18, rfl, rfl, rfl, by kernel_rfl, by decide⟩
theorem fok19 : FOK Try.prog cfg 19 fi19 := ⟨Try.f19, Try.func19, rfl, rfl, rfl, by kernel_rfl, by decide⟩
theorem fok20 : FOK Try.prog cfg 20 fi20 := ⟨Try.f20, Try.func20, rfl, rfl, rfl, by kernel_rfl, by decide⟩
theorem fok21 : FOK Try.prog cfg 21 fi21 := ⟨Try.f21, Try.func21, rfl, rfl, rfl, by kernel_rfl, by decide⟩
theorem fok22 : FOK Try.prog cfg 22 fi22 := ⟨Try.f22, Try.func22, rfl, rfl, rfl, by kernel_rfl, by decide⟩
theorem fok23 : FOK Try.prog cfg 23 fi23 := ⟨Try.f23, Try.func23, rfl, rfl, rfl, by kernel_rfl, by decide⟩
theorem fok24 : FOK Try.prog cfg 24 fi24 := ⟨Try.f24, Try.func24, rfl, rfl, rfl, by kernel_rfl, by decide⟩
theorem fok25 : FOK Try.prog cfg 25 fi25 := ⟨Try.f25, Try.func25, rfl, rfl, rfl, by kernel_rfl, by decide⟩
theorem fok26 : FOK Try.prog cfg 26 fi26 := ⟨Try.f26, Try.func26, rfl, rfl, rfl, by kernel_rfl, by decide⟩
theorem fok27 : FOK Try.prog cfg 27 fi27 := ⟨Try.f27, Try.func27, rfl, rfl, rfl, by kernel_rfl, by decide⟩
theorem fok28 : FOK Try.prog cfg 28 fi28 := ⟨Try.f28, Try.func28, rfl, rfl, rfl, by kernel_rfl, by decide⟩
theorem fok29 : FOK Try.prog cfg 29 fi29 := ⟨Try.f29, Try.func29, rfl, rfl, rfl, by kernel_rfl, by decide⟩
theorem fok30 : FOK Try.prog cfg 30 fi30 := ⟨Try.f30, Try.func30, rfl, rfl, rfl, by kernel_rfl, by decide⟩
theorem fok31 : FOK Try.prog cfg 31 fi31 := ⟨Try.f31, Try.func31, rfl, rfl, rfl, by kernel_rfl, by decide⟩
theorem fok32 : FOK Try.prog cfg 32 fi32 := ⟨Try.f32, Try.func32, rfl, rfl, rfl, by kernel_rfl, by decide⟩
theorem fok33 : FOK Try.prog cfg 33 fi33 := ⟨Try.f33, Try.func33, rfl, rfl, rfl, by kernel_rfl, by decide⟩
theorem fok34 : FOK Try.prog cfg 34 fi34 := ⟨Try.f34, Try.func34, rfl, rfl, rfl, by kernel_rfl, by decide⟩
theorem fok35 : FOK Try.prog cfg 35 fi35 := ⟨Try.f35, Try.func35, rfl, rfl, rfl, by kernel_rfl, by decide⟩
theorem fok36 : FOK Try.prog cfg 36 fi36 := ⟨Try.f36, Try.func36, rfl, rfl, rfl, by kernel_rfl, by decide⟩
theorem fok37 : FOK Try.prog cfg 37 fi37 := ⟨Try.f37, Try.func37, rfl, rfl, rfl, by kernel_rfl, by decide⟩
theorem fok38 : FOK Try.prog cfg 38 fi38 := ⟨Try.f38, Try.func38, rfl, rfl, rfl, by kernel_rfl, by decide⟩
theorem fok39 : FOK Try.prog cfg 39 fi39 := ⟨Try.f39, Try.func39, rfl, rfl, rfl, by kernel_rfl, by decide⟩
theorem fok40 : FOK Try.prog cfg 40 fi40 := ⟨Try.f40, Try.func40, rfl, rfl, rfl, by kernel_rfl, by decide⟩
theorem fok41 : FOK Try.prog cfg 41 fi41 := ⟨Try.f41, Try.func41, rfl, rfl, rfl, by kernel_rfl, by decide⟩
theorem fok42 : FOK Try.prog cfg 42 fi42 := ⟨Try.f42, Try.func42, rfl, rfl, rfl, by kernel_rfl, by decide⟩
theorem fok43 : FOK Try.prog cfg 43 fi43 := ⟨Try.f43, Try.func43, rfl, rfl, rfl, by kernel_rfl, by decide⟩
theorem fok44 : FOK Try.prog cfg 44 fi44 := ⟨Try.f44, Try.func44, rfl, rfl, rfl, by kernel_rfl, by decide⟩
theorem cok : COK BT0 Try.prog cfg where
  T := look_ok types_ok
  fn := lookF_ok (fun p hp => by
    simp only [fns, List.mem_cons, List.not_mem_nil, or_false] at hp
    rcases hp with rfl | rfl | rfl | rfl | rfl | rfl | rfl | rfl | rfl | rfl | rfl | rfl | rfl | rfl | rfl | rfl | rfl | rfl | rfl | rfl | rfl | rfl | rfl | rfl | rfl | rfl | rfl | rfl | rfl | rfl | rfl | rfl | rfl | rfl | rfl | rfl | rfl | rfl | rfl | rfl | rfl | rfl
    · exact fok3
    · exact fok4
    · exact fok5
    · exact fok6
    · exact fok7
    · exact fok8
    · exact fok9
    · exact fok10
    · exact fok11
    · exact fok12
    · exact fok13
    · exact fok14
    · exact fok15
    · exact fok16
    · exact fok17
    · exact fok18
    · exact fok19
    · exact fok20
    · exact fok21
    · exact fok22
    · exact fok23
    · exact fok24
    · exact fok25
    · exact fok26
    · exact fok27
    · exact fok28
    · exact fok29
    · exact fok30
    · exact fok31
    · exact fok32
    · exact fok33
    · exact fok34
    · exact fok35
    · exact fok36
    · exact fok37
    · exact fok38
    · exact fok39
    · exact fok40
    · exact fok41
    · exact fok42
    · exact fok43
    · exact fok44)
  given := fun f g h => by simp [cfg, givens] at h
  meth := fun t m f h => by cases h
  mixed := by kernel_rfl
end Go.Proofs.Ytoljfmghcfdbpaa.X
