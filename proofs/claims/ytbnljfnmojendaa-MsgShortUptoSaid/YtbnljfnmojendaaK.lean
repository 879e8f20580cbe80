/- The configuration of the simple machine for this seat, written by a program of this claim's (xcfg.py). -/
import Derived.Test.YtbnljfnmojendaaProg
import Derived.Test.YtbnljfnmojendaaL
import Derived.Test.YtbnljfnmojendaaW
import Derived.Test.YtbnljfnmojendaaG
set_option linter.unusedVariables false
set_option maxRecDepth 100000
namespace Go.Proofs.Ytbnljfnmojendaa.X
open Go Go.RowKit
abbrev BT0 : BT := BTG
def types : List (TypeId × TI) := [
  (1, ⟨.func, 1, 8, .nilf⟩),
  (2, ⟨.int .i64, 1, 8, .int .i64 0⟩),
  (3, ⟨.int .i64, 1, 8, .int .i64 0⟩),
  (4, ⟨.bool, 1, 1, .bool false⟩),
  (5, ⟨.int .u8, 1, 1, .int .u8 0⟩),
  (9, ⟨.str, 1, 16, .str ⟨#[]⟩⟩),
  (12, ⟨.int .u64, 1, 8, .int .u64 0⟩),
  (15, ⟨.ptr, 1, 8, .nilp⟩),
  (16, ⟨.ptr, 1, 8, .nilp⟩),
  (17, ⟨.ptr, 1, 8, .nilp⟩),
  (20, ⟨.iface, 1, 16, .nili⟩),
  (21, ⟨.int .i32, 1, 4, .int .i32 0⟩),
  (22, ⟨.slice 40, 1, 24, .emp⟩),
  (23, ⟨.slice 9, 1, 24, .emp⟩),
  (24, ⟨.strct [(0, 3), (1, 22), (2, 23)], 3, 56, .agg [.int .i64 0, .emp, .emp]⟩),
  (25, ⟨.strct [(0, 3), (1, 22), (2, 23)], 3, 56, .agg [.int .i64 0, .emp, .emp]⟩),
  (26, ⟨.int .i64, 1, 8, .int .i64 0⟩),
  (28, ⟨.func, 1, 8, .nilf⟩),
  (29, ⟨.func, 1, 8, .nilf⟩),
  (30, ⟨.func, 1, 8, .nilf⟩),
  (31, ⟨.func, 1, 8, .nilf⟩),
  (33, ⟨.func, 1, 8, .nilf⟩),
  (34, ⟨.func, 1, 8, .nilf⟩),
  (35, ⟨.func, 1, 8, .nilf⟩),
  (36, ⟨.slice 5, 1, 24, .emp⟩),
  (37, ⟨.func, 1, 8, .nilf⟩),
  (38, ⟨.func, 1, 8, .nilf⟩),
  (39, ⟨.func, 1, 8, .nilf⟩),
  (40, ⟨.int .u64, 1, 8, .int .u64 0⟩),
  (41, ⟨.strct [(0, 3), (1, 3), (2, 3)], 3, 24, .agg [.int .i64 0, .int .i64 0, .int .i64 0]⟩),
  (42, ⟨.strct [(0, 3), (1, 3), (2, 3)], 3, 24, .agg [.int .i64 0, .int .i64 0, .int .i64 0]⟩),
  (44, ⟨.func, 1, 8, .nilf⟩),
  (45, ⟨.func, 1, 8, .nilf⟩),
  (47, ⟨.func, 1, 8, .nilf⟩),
  (49, ⟨.func, 1, 8, .nilf⟩),
  (50, ⟨.func, 1, 8, .nilf⟩),
  (51, ⟨.func, 1, 8, .nilf⟩),
  (52, ⟨.ptr, 1, 8, .nilp⟩),
  (53, ⟨.strct [(0, 52), (1, 36)], 2, 32, .agg [.nilp, .emp]⟩),
  (54, ⟨.bld, 2, 32, .agg [.nilp, .emp]⟩),
  (55, ⟨.iface, 1, 16, .nili⟩),
  (56, ⟨.iface, 1, 16, .nili⟩),
  (58, ⟨.func, 1, 8, .nilf⟩),
  (59, ⟨.func, 1, 8, .nilf⟩),
  (60, ⟨.func, 1, 8, .nilf⟩),
  (61, ⟨.func, 1, 8, .nilf⟩),
  (62, ⟨.array 8 42, 24, 192, .agg [.int .i64 0, .int .i64 0, .int .i64 0, .int .i64 0, .int .i64 0, .int .i64 0, .int .i64 0, .int .i64 0, .int .i64 0, .int .i64 0, .int .i64 0, .int .i64 0, .int .i64 0, .int .i64 0, .int .i64 0, .int .i64 0, .int .i64 0, .int .i64 0, .int .i64 0, .int .i64 0, .int .i64 0, .int .i64 0, .int .i64 0, .int .i64 0]⟩),
  (63, ⟨.slice 3, 1, 24, .emp⟩),
  (65, ⟨.func, 1, 8, .nilf⟩),
  (67, ⟨.func, 1, 8, .nilf⟩),
  (68, ⟨.func, 1, 8, .nilf⟩),
  (69, ⟨.func, 1, 8, .nilf⟩),
  (70, ⟨.ptr, 1, 8, .nilp⟩),
  (72, ⟨.func, 1, 8, .nilf⟩),
  (73, ⟨.int .u64, 1, 8, .int .u64 0⟩),
  (79, ⟨.func, 1, 8, .nilf⟩),
  (80, ⟨.int .u32, 1, 4, .int .u32 0⟩),
  (83, ⟨.func, 1, 8, .nilf⟩)]
/-- countersign/countersignlaw02.MsgEncodes -/
noncomputable def b3 : Code := Try.f3.body.getD .skip
noncomputable def fi3 : FI := ⟨b3, 35, [.tmp 2], .pure⟩
/-- countersign/countersignlaw02.MsgDecodes -/
noncomputable def b4 : Code := Try.f4.body.getD .skip
noncomputable def fi4 : FI := ⟨b4, 28, [.tmp 2], .pure⟩
/-- countersign/countersignlaw02.MsgBack -/
noncomputable def b5 : Code := Try.f5.body.getD .skip
noncomputable def fi5 : FI := ⟨b5, 58, [.tmp 4], .pure⟩
/-- countersign/countersignlaw02.MsgOnce -/
noncomputable def b6 : Code := Try.f6.body.getD .skip
noncomputable def fi6 : FI := ⟨b6, 63, [.tmp 4], .pure⟩
/-- countersign/countersignlaw02.MsgShort -/
noncomputable def b7 : Code := Try.f7.body.getD .skip
noncomputable def fi7 : FI := ⟨b7, 40, [.tmp 4], .pure⟩
/-- countersign/msg.Encode -/
noncomputable def b8 : Code := Try.f8.body.getD .skip
noncomputable def fi8 : FI := ⟨b8, 12, [.tmp 2, .tmp 3], .pure⟩
/-- countersign/countersignref02.Encode -/
noncomputable def b9 : Code := Try.f9.body.getD .skip
noncomputable def fi9 : FI := ⟨b9, 12, [.tmp 2, .tmp 3], .pure⟩
/-- countersign/countersignlaw02.fixed -/
noncomputable def b10 : Code := Try.f10.body.getD .skip
noncomputable def fi10 : FI := ⟨b10, 45, [.tmp 0], .pure⟩
/-- countersign/msg.Check -/
noncomputable def b11 : Code := Try.f11.body.getD .skip
noncomputable def fi11 : FI := ⟨b11, 61, [.tmp 2], .pure⟩
/-- countersign/countersignref02.Check -/
noncomputable def b12 : Code := Try.f12.body.getD .skip
noncomputable def fi12 : FI := ⟨b12, 68, [.tmp 2], .pure⟩
/-- countersign/msg.Decode -/
noncomputable def b13 : Code := Try.f13.body.getD .skip
noncomputable def fi13 : FI := ⟨b13, 81, [.cell 2 25, .tmp 3], .pure⟩
/-- countersign/countersignref02.Decode -/
noncomputable def b14 : Code := Try.f14.body.getD .skip
noncomputable def fi14 : FI := ⟨b14, 86, [.cell 2 25, .tmp 3], .pure⟩
/-- countersign/countersignref02.Is -/
noncomputable def b15 : Code := Try.f15.body.getD .skip
noncomputable def fi15 : FI := ⟨b15, 24, [.tmp 4], .pure⟩
/-- countersign/msg.laid -/
noncomputable def b16 : Code := Try.f16.body.getD .skip
noncomputable def fi16 : FI := ⟨b16, 27, [.tmp 2], .pure⟩
/-- countersign/countersignref02.Laid -/
noncomputable def b17 : Code := Try.f17.body.getD .skip
noncomputable def fi17 : FI := ⟨b17, 29, [.tmp 2], .pure⟩
/-- countersign/msg.shapes -/
noncomputable def b18 : Code := Try.f18.body.getD .skip
noncomputable def fi18 : FI := ⟨b18, 24, [.cell 2 42, .tmp 3], .pure⟩
/-- countersign/countersignref02.Nums -/
noncomputable def b19 : Code := Try.f19.body.getD .skip
noncomputable def fi19 : FI := ⟨b19, 9, [.tmp 2], .pure⟩
/-- countersign/countersignref02.Least -/
noncomputable def b20 : Code := Try.f20.body.getD .skip
noncomputable def fi20 : FI := ⟨b20, 13, [.tmp 2], .pure⟩
/-- countersign/countersignref02.Most -/
noncomputable def b21 : Code := Try.f21.body.getD .skip
noncomputable def fi21 : FI := ⟨b21, 7, [.tmp 2], .pure⟩
/-- countersign/wire.TakeUint -/
noncomputable def b22 : Code := Try.f22.body.getD .skip
noncomputable def fi22 : FI := ⟨b22, 44, [.tmp 2, .tmp 3, .tmp 4], .pure⟩
/-- countersign/wire.TakeList -/
noncomputable def b23 : Code := Try.f23.body.getD .skip
noncomputable def fi23 : FI := ⟨b23, 41, [.tmp 4, .tmp 5, .tmp 6], .pure⟩
/-- countersign/countersignref01.TakeUint -/
noncomputable def b24 : Code := Try.f24.body.getD .skip
noncomputable def fi24 : FI := ⟨b24, 45, [.tmp 2, .tmp 3, .tmp 4], .pure⟩
/-- countersign/countersignref01.TakeList -/
noncomputable def b25 : Code := Try.f25.body.getD .skip
noncomputable def fi25 : FI := ⟨b25, 56, [.tmp 4, .tmp 5, .tmp 6], .pure⟩
/-- countersign/countersignref01.Nums -/
noncomputable def b26 : Code := Try.f26.body.getD .skip
noncomputable def fi26 : FI := ⟨b26, 26, [.tmp 4], .pure⟩
/-- countersign/countersignref01.Texts -/
noncomputable def b27 : Code := Try.f27.body.getD .skip
noncomputable def fi27 : FI := ⟨b27, 26, [.tmp 4], .pure⟩
/-- countersign/wire.PutUint -/
noncomputable def b29 : Code := Try.f29.body.getD .skip
noncomputable def fi29 : FI := ⟨b29, 6, [.tmp 2], .pure⟩
/-- countersign/wire.PutList -/
noncomputable def b30 : Code := Try.f30.body.getD .skip
noncomputable def fi30 : FI := ⟨b30, 22, [.tmp 2], .pure⟩
/-- countersign/countersignref01.PutUint -/
noncomputable def b32 : Code := Try.f32.body.getD .skip
noncomputable def fi32 : FI := ⟨b32, 23, [.tmp 2], .pure⟩
/-- countersign/countersignref01.PutList -/
noncomputable def b33 : Code := Try.f33.body.getD .skip
noncomputable def fi33 : FI := ⟨b33, 23, [.tmp 2], .pure⟩
/-- countersign/wire.many -/
noncomputable def b34 : Code := Try.f34.body.getD .skip
noncomputable def fi34 : FI := ⟨b34, 38, [.tmp 4, .tmp 5, .tmp 6], .pure⟩
/-- countersign/wire.TakeText -/
noncomputable def b35 : Code := Try.f35.body.getD .skip
noncomputable def fi35 : FI := ⟨b35, 41, [.tmp 4, .tmp 5, .tmp 6], .pure⟩
/-- countersign/countersignref01.TakeText -/
noncomputable def b36 : Code := Try.f36.body.getD .skip
noncomputable def fi36 : FI := ⟨b36, 43, [.tmp 4, .tmp 5, .tmp 6], .pure⟩
/-- countersign/wire.put -/
noncomputable def b38 : Code := Try.f38.body.getD .skip
noncomputable def fi38 : FI := ⟨b38, 20, [.tmp 4], .keep⟩
/-- countersign/wire.PutText -/
noncomputable def b39 : Code := Try.f39.body.getD .skip
noncomputable def fi39 : FI := ⟨b39, 9, [.tmp 2], .pure⟩
/-- countersign/countersignref01.PutText -/
noncomputable def b40 : Code := Try.f40.body.getD .skip
noncomputable def fi40 : FI := ⟨b40, 9, [.tmp 2], .pure⟩
noncomputable def fns : List (FuncId × FI) := [(3, fi3), (4, fi4), (5, fi5), (6, fi6), (7, fi7), (8, fi8), (9, fi9), (10, fi10), (11, fi11), (12, fi12), (13, fi13), (14, fi14), (15, fi15), (16, fi16), (17, fi17), (18, fi18), (19, fi19), (20, fi20), (21, fi21), (22, fi22), (23, fi23), (24, fi24), (25, fi25), (26, fi26), (27, fi27), (29, fi29), (30, fi30), (32, fi32), (33, fi33), (34, fi34), (35, fi35), (36, fi36), (38, fi38), (39, fi39), (40, fi40)]
def givens (f : FuncId) : Option Given := if f = 28 then some .bWrite else if f = 31 then some .bString else none
def flags (i n d : Nat) : List Tmp := []
noncomputable def cfg : Cfg := ⟨look types, lookF fns, givens, fun _ _ => none, flags⟩
theorem T1 : cfg.T 1 = some ⟨.func, 1, 8, .nilf⟩ := rfl
theorem T2 : cfg.T 2 = some ⟨.int .i64, 1, 8, .int .i64 0⟩ := rfl
theorem T3 : cfg.T 3 = some ⟨.int .i64, 1, 8, .int .i64 0⟩ := rfl
theorem T4 : cfg.T 4 = some ⟨.bool, 1, 1, .bool false⟩ := rfl
theorem T5 : cfg.T 5 = some ⟨.int .u8, 1, 1, .int .u8 0⟩ := rfl
theorem T9 : cfg.T 9 = some ⟨.str, 1, 16, .str ⟨#[]⟩⟩ := rfl
theorem T12 : cfg.T 12 = some ⟨.int .u64, 1, 8, .int .u64 0⟩ := rfl
theorem T15 : cfg.T 15 = some ⟨.ptr, 1, 8, .nilp⟩ := rfl
theorem T16 : cfg.T 16 = some ⟨.ptr, 1, 8, .nilp⟩ := rfl
theorem T17 : cfg.T 17 = some ⟨.ptr, 1, 8, .nilp⟩ := rfl
theorem T20 : cfg.T 20 = some ⟨.iface, 1, 16, .nili⟩ := rfl
theorem T21 : cfg.T 21 = some ⟨.int .i32, 1, 4, .int .i32 0⟩ := rfl
theorem T22 : cfg.T 22 = some ⟨.slice 40, 1, 24, .emp⟩ := rfl
theorem T23 : cfg.T 23 = some ⟨.slice 9, 1, 24, .emp⟩ := rfl
theorem T24 : cfg.T 24 = some ⟨.strct [(0, 3), (1, 22), (2, 23)], 3, 56, .agg [.int .i64 0, .emp, .emp]⟩ := rfl
theorem T25 : cfg.T 25 = some ⟨.strct [(0, 3), (1, 22), (2, 23)], 3, 56, .agg [.int .i64 0, .emp, .emp]⟩ := rfl
theorem T26 : cfg.T 26 = some ⟨.int .i64, 1, 8, .int .i64 0⟩ := rfl
theorem T28 : cfg.T 28 = some ⟨.func, 1, 8, .nilf⟩ := rfl
theorem T29 : cfg.T 29 = some ⟨.func, 1, 8, .nilf⟩ := rfl
theorem T30 : cfg.T 30 = some ⟨.func, 1, 8, .nilf⟩ := rfl
theorem T31 : cfg.T 31 = some ⟨.func, 1, 8, .nilf⟩ := rfl
theorem T33 : cfg.T 33 = some ⟨.func, 1, 8, .nilf⟩ := rfl
theorem T34 : cfg.T 34 = some ⟨.func, 1, 8, .nilf⟩ := rfl
theorem T35 : cfg.T 35 = some ⟨.func, 1, 8, .nilf⟩ := rfl
theorem T36 : cfg.T 36 = some ⟨.slice 5, 1, 24, .emp⟩ := rfl
theorem T37 : cfg.T 37 = some ⟨.func, 1, 8, .nilf⟩ := rfl
theorem T38 : cfg.T 38 = some ⟨.func, 1, 8, .nilf⟩ := rfl
theorem T39 : cfg.T 39 = some ⟨.func, 1, 8, .nilf⟩ := rfl
theorem T40 : cfg.T 40 = some ⟨.int .u64, 1, 8, .int .u64 0⟩ := rfl
theorem T41 : cfg.T 41 = some ⟨.strct [(0, 3), (1, 3), (2, 3)], 3, 24, .agg [.int .i64 0, .int .i64 0, .int .i64 0]⟩ := rfl
theorem T42 : cfg.T 42 = some ⟨.strct [(0, 3), (1, 3), (2, 3)], 3, 24, .agg [.int .i64 0, .int .i64 0, .int .i64 0]⟩ := rfl
theorem T44 : cfg.T 44 = some ⟨.func, 1, 8, .nilf⟩ := rfl
theorem T45 : cfg.T 45 = some ⟨.func, 1, 8, .nilf⟩ := rfl
theorem T47 : cfg.T 47 = some ⟨.func, 1, 8, .nilf⟩ := rfl
theorem T49 : cfg.T 49 = some ⟨.func, 1, 8, .nilf⟩ := rfl
theorem T50 : cfg.T 50 = some ⟨.func, 1, 8, .nilf⟩ := rfl
theorem T51 : cfg.T 51 = some ⟨.func, 1, 8, .nilf⟩ := rfl
theorem T52 : cfg.T 52 = some ⟨.ptr, 1, 8, .nilp⟩ := rfl
theorem T53 : cfg.T 53 = some ⟨.strct [(0, 52), (1, 36)], 2, 32, .agg [.nilp, .emp]⟩ := rfl
theorem T54 : cfg.T 54 = some ⟨.bld, 2, 32, .agg [.nilp, .emp]⟩ := rfl
theorem T55 : cfg.T 55 = some ⟨.iface, 1, 16, .nili⟩ := rfl
theorem T56 : cfg.T 56 = some ⟨.iface, 1, 16, .nili⟩ := rfl
theorem T58 : cfg.T 58 = some ⟨.func, 1, 8, .nilf⟩ := rfl
theorem T59 : cfg.T 59 = some ⟨.func, 1, 8, .nilf⟩ := rfl
theorem T60 : cfg.T 60 = some ⟨.func, 1, 8, .nilf⟩ := rfl
theorem T61 : cfg.T 61 = some ⟨.func, 1, 8, .nilf⟩ := rfl
theorem T62 : cfg.T 62 = some ⟨.array 8 42, 24, 192, .agg [.int .i64 0, .int .i64 0, .int .i64 0, .int .i64 0, .int .i64 0, .int .i64 0, .int .i64 0, .int .i64 0, .int .i64 0, .int .i64 0, .int .i64 0, .int .i64 0, .int .i64 0, .int .i64 0, .int .i64 0, .int .i64 0, .int .i64 0, .int .i64 0, .int .i64 0, .int .i64 0, .int .i64 0, .int .i64 0, .int .i64 0, .int .i64 0]⟩ := rfl
theorem T63 : cfg.T 63 = some ⟨.slice 3, 1, 24, .emp⟩ := rfl
theorem T65 : cfg.T 65 = some ⟨.func, 1, 8, .nilf⟩ := rfl
theorem T67 : cfg.T 67 = some ⟨.func, 1, 8, .nilf⟩ := rfl
theorem T68 : cfg.T 68 = some ⟨.func, 1, 8, .nilf⟩ := rfl
theorem T69 : cfg.T 69 = some ⟨.func, 1, 8, .nilf⟩ := rfl
theorem T70 : cfg.T 70 = some ⟨.ptr, 1, 8, .nilp⟩ := rfl
theorem T72 : cfg.T 72 = some ⟨.func, 1, 8, .nilf⟩ := rfl
theorem T73 : cfg.T 73 = some ⟨.int .u64, 1, 8, .int .u64 0⟩ := rfl
theorem T79 : cfg.T 79 = some ⟨.func, 1, 8, .nilf⟩ := rfl
theorem T80 : cfg.T 80 = some ⟨.int .u32, 1, 4, .int .u32 0⟩ := rfl
theorem T83 : cfg.T 83 = some ⟨.func, 1, 8, .nilf⟩ := rfl
theorem F3 : cfg.fn 3 = some fi3 := rfl
theorem g3 : cfg.given 3 = none := rfl
theorem F4 : cfg.fn 4 = some fi4 := rfl
theorem g4 : cfg.given 4 = none := rfl
theorem F5 : cfg.fn 5 = some fi5 := rfl
theorem g5 : cfg.given 5 = none := rfl
theorem F6 : cfg.fn 6 = some fi6 := rfl
theorem g6 : cfg.given 6 = none := rfl
theorem F7 : cfg.fn 7 = some fi7 := rfl
theorem g7 : cfg.given 7 = none := rfl
theorem F8 : cfg.fn 8 = some fi8 := rfl
theorem g8 : cfg.given 8 = none := rfl
theorem F9 : cfg.fn 9 = some fi9 := rfl
theorem g9 : cfg.given 9 = none := rfl
theorem F10 : cfg.fn 10 = some fi10 := rfl
theorem g10 : cfg.given 10 = none := rfl
theorem F11 : cfg.fn 11 = some fi11 := rfl
theorem g11 : cfg.given 11 = none := rfl
theorem F12 : cfg.fn 12 = some fi12 := rfl
theorem g12 : cfg.given 12 = none := rfl
theorem F13 : cfg.fn 13 = some fi13 := rfl
theorem g13 : cfg.given 13 = none := rfl
theorem F14 : cfg.fn 14 = some fi14 := rfl
theorem g14 : cfg.given 14 = none := rfl
theorem F15 : cfg.fn 15 = some fi15 := rfl
theorem g15 : cfg.given 15 = none := rfl
theorem F16 : cfg.fn 16 = some fi16 := rfl
theorem g16 : cfg.given 16 = none := rfl
theorem F17 : cfg.fn 17 = some fi17 := rfl
theorem g17 : cfg.given 17 = none := rfl
theorem F18 : cfg.fn 18 = some fi18 := rfl
theorem g18 : cfg.given 18 = none := rfl
theorem F19 : cfg.fn 19 = some fi19 := rfl
theorem g19 : cfg.given 19 = none := rfl
theorem F20 : cfg.fn 20 = some fi20 := rfl
theorem g20 : cfg.given 20 = none := rfl
theorem F21 : cfg.fn 21 = some fi21 := rfl
theorem g21 : cfg.given 21 = none := rfl
theorem F22 : cfg.fn 22 = some fi22 := rfl
theorem g22 : cfg.given 22 = none := rfl
theorem F23 : cfg.fn 23 = some fi23 := rfl
theorem g23 : cfg.given 23 = none := rfl
theorem F24 : cfg.fn 24 = some fi24 := rfl
theorem g24 : cfg.given 24 = none := rfl
theorem F25 : cfg.fn 25 = some fi25 := rfl
theorem g25 : cfg.given 25 = none := rfl
theorem F26 : cfg.fn 26 = some fi26 := rfl
theorem g26 : cfg.given 26 = none := rfl
theorem F27 : cfg.fn 27 = some fi27 := rfl
theorem g27 : cfg.given 27 = none := rfl
theorem F29 : cfg.fn 29 = some fi29 := rfl
theorem g29 : cfg.given 29 = none := rfl
theorem F30 : cfg.fn 30 = some fi30 := rfl
theorem g30 : cfg.given 30 = none := rfl
theorem F32 : cfg.fn 32 = some fi32 := rfl
theorem g32 : cfg.given 32 = none := rfl
theorem F33 : cfg.fn 33 = some fi33 := rfl
theorem g33 : cfg.given 33 = none := rfl
theorem F34 : cfg.fn 34 = some fi34 := rfl
theorem g34 : cfg.given 34 = none := rfl
theorem F35 : cfg.fn 35 = some fi35 := rfl
theorem g35 : cfg.given 35 = none := rfl
theorem F36 : cfg.fn 36 = some fi36 := rfl
theorem g36 : cfg.given 36 = none := rfl
theorem F38 : cfg.fn 38 = some fi38 := rfl
theorem g38 : cfg.given 38 = none := rfl
theorem F39 : cfg.fn 39 = some fi39 := rfl
theorem g39 : cfg.given 39 = none := rfl
theorem F40 : cfg.fn 40 = some fi40 := rfl
theorem g40 : cfg.given 40 = none := rfl
theorem g28 : cfg.given 28 = some .bWrite := rfl
theorem g31 : cfg.given 31 = some .bString := rfl
theorem types_ok : (types.all fun p => tokB BT0 Try.prog p.1 p.2) = true := by kernel_rfl
theorem fok3 : FOK Try.prog cfg 3 fi3 := ⟨Try.f3, Try.func3, rfl, rfl, rfl, by kernel_rfl, by decide⟩
theorem fok4 : FOK Try.prog cfg 4 fi4 := ⟨Try.f4, Try.func4, rfl, rfl, rfl, by kernel_rfl, by decide⟩
theorem fok5 : FOK Try.prog cfg 5 fi5 := ⟨Try.f5, Try.func5, rfl, rfl, rfl, by kernel_rfl, by decide⟩
theorem fok6 : FOK Try.prog cfg 6 fi6 := ⟨Try.f6, Try.func6, rfl, rfl, rfl, by kernel_rfl, by decide⟩
theorem fok7 : FOK Try.prog cfg 7 fi7 := ⟨Try.f7, Try.func7, rfl, rfl, rfl, by kernel_rfl, by decide⟩
theorem fok8 : FOK Try.prog cfg 8 fi8 := ⟨Try.f8, Try.func8, rfl, rfl, rfl, by kernel_rfl, by decide⟩
theorem fok9 : FOK Try.prog cfg 9 fi9 := ⟨Try.f9, Try.func9, rfl, rfl, rfl, by kernel_rfl, by decide⟩
theorem fok10 : FOK Try.prog cfg 10 fi10 := ⟨Try.f10, Try.func10, rfl, rfl, rfl, by kernel_rfl, by decide⟩
theorem fok11 : FOK Try.prog cfg 11 fi11 := ⟨Try.f11, Try.func11, rfl, rfl, rfl, by kernel_rfl, by decide⟩
theorem fok12 : FOK Try.prog cfg 12 fi12 := ⟨Try.f12, Try.func12, rfl, rfl, rfl, by kernel_rfl, by decide⟩
theorem fok13 : FOK Try.prog cfg 13 fi13 := ⟨Try.f13, Try.func13, rfl, rfl, rfl, by kernel_rfl, by decide⟩
theorem fok14 : FOK Try.prog cfg 14 fi14 := ⟨Try.f14, Try.func14, rfl, rfl, rfl, by kernel_rfl, by decide⟩
theorem fok15 : FOK Try.prog cfg 15 fi15 := ⟨Try.f15, Try.func15, rfl, rfl, rfl, by kernel_rfl, by decide⟩
theorem fok16 : FOK Try.prog cfg 16 fi16 := ⟨Try.f16, Try.func16, rfl, rfl, rfl, by kernel_rfl, by decide⟩
theorem fok17 : FOK Try.prog cfg 17 fi17 := ⟨Try.f17, Try.func17, rfl, rfl, rfl, by kernel_rfl, by decide⟩
theorem fok18 : FOK Try.prog cfg 18 fi18 := ⟨Try.f18, Try.func18, rfl, rfl, rfl, by kernel_rfl, by decide⟩
theorem fok19 : FOK Try.prog cfg 19 fi19 := ⟨Try.f19, Try.func19, rfl, rfl, rfl, by kernel_rfl, by decide⟩
theorem fok20 : FOK Try.prog cfg 20 fi20 := ⟨Try.f20, Try.func20, rfl, rfl, rfl, by kernel_rfl, by decide⟩
theorem fok21 : FOK Try.prog cfg 21 fi21 := ⟨Try.f21, Try.func21, rfl, rfl, rfl, by kernel_rfl, by decide⟩
theorem fok22 : FOK Try.prog cfg 22 fi22 := ⟨Try.f22, Try.func22, rfl, rfl, rfl, by kernel_rfl, by decide⟩
theorem fok23 : FOK Try.prog cfg 23 fi23 := ⟨Try.f23, Try.func23, rfl, rfl, rfl, by kernel_rfl, by decide⟩
theorem fok24 : FOK Try.prog cfg 24 fi24 := ⟨Try.f24, Try.func24, rfl, rfl, rfl, by kernel_rfl, by decide⟩
theorem fok25 : FOK Try.prog cfg 25 fi25 := ⟨Try.f25, Try.func25, rfl, rfl, rfl, by kernel_rfl, by decide⟩
theorem fok26 : FOK Try.prog cfg 26 fi26 := ⟨Try.f26, Try.func26, rfl, rfl, rfl, by kernel_rfl, by decide⟩
theorem fok27 : FOK Try.prog cfg 27 fi27 := ⟨Try.f27, Try.func27, rfl, rfl, rfl, by kernel_rfl, by decide⟩
theorem fok29 : FOK Try.prog cfg 29 fi29 := ⟨Try.f29, Try.func29, rfl, rfl, rfl, by kernel_rfl, by decide⟩
theorem fok30 : FOK Try.prog cfg 30 fi30 := ⟨Try.f30, Try.func30, rfl, rfl, rfl, by kernel_rfl, by decide⟩
theorem fok32 : FOK Try.prog cfg 32 fi32 := ⟨Try.f32, Try.func32, rfl, rfl, rfl, by kernel_rfl, by decide⟩
theorem fok33 : FOK Try.prog cfg 33 fi33 := ⟨Try.f33, Try.func33, rfl, rfl, rfl, by kernel_rfl, by decide⟩
theorem fok34 : FOK Try.prog cfg 34 fi34 := ⟨Try.f34, Try.func34, rfl, rfl, rfl, by kernel_rfl, by decide⟩
theorem fok35 : FOK Try.prog cfg 35 fi35 := ⟨Try.f35, Try.func35, rfl, rfl, rfl, by kernel_rfl, by decide⟩
theorem fok36 : FOK Try.prog cfg 36 fi36 := ⟨Try.f36, Try.func36, rfl, rfl, rfl, by kernel_rfl, by decide⟩
theorem fok38 : FOK Try.prog cfg 38 fi38 := ⟨Try.f38, Try.func38, rfl, rfl, rfl, by kernel_rfl, by decide⟩
theorem fok39 : FOK Try.prog cfg 39 fi39 := ⟨Try.f39, Try.func39, rfl, rfl, rfl, by kernel_rfl, by decide⟩
theorem fok40 : FOK Try.prog cfg 40 fi40 := ⟨Try.f40, Try.func40, rfl, rfl, rfl, by kernel_rfl, by decide⟩
theorem cok : COK BT0 Try.prog cfg where
  T := look_ok types_ok
  fn := lookF_ok (fun p hp => by
    simp only [fns, List.mem_cons, List.not_mem_nil, or_false] at hp
    rcases hp with rfl | rfl | rfl | rfl | rfl | rfl | rfl | rfl | rfl | rfl | rfl | rfl | rfl | rfl | rfl | rfl | rfl | rfl | rfl | rfl | rfl | rfl | rfl | rfl | rfl | rfl | rfl | rfl | rfl | rfl | rfl | rfl | rfl | rfl | rfl
    · exact fok3
    · exact fok4
    · exact fok5
    · exact fok6
    · exact fok7
    · exact fok8
    · exact fok9
    · exact fok10
    · exact fok11
    · exact fok12
    · exact fok13
    · exact fok14
    · exact fok15
    · exact fok16
    · exact fok17
    · exact fok18
    · exact fok19
    · exact fok20
    · exact fok21
    · exact fok22
    · exact fok23
    · exact fok24
    · exact fok25
    · exact fok26
    · exact fok27
    · exact fok29
    · exact fok30
    · exact fok32
    · exact fok33
    · exact fok34
    · exact fok35
    · exact fok36
    · exact fok38
    · exact fok39
    · exact fok40)
  given := fun f g h => by
    simp only [cfg, givens] at h
    split at h
    · rename_i e; subst e; cases h; exact given_bWrite
    split at h
    · rename_i e; subst e; cases h; exact given_bString
    cases h
  meth := fun t m f h => by cases h
  mixed := by kernel_rfl
end Go.Proofs.Ytbnljfnmojendaa.X
