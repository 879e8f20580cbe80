/- The configuration of the simple machine for this seat, written by a program of this claim's (xcfg.py). -/
import Derived.Test.YtgeadlkaniggdaaProg
import Derived.Test.YtgeadlkaniggdaaL
import Derived.Test.YtgeadlkaniggdaaW
set_option linter.unusedVariables false
set_option maxRecDepth 100000
namespace Go.Proofs.Ytgeadlkaniggdaa.X
open Go Go.RowKit
def BT0 : BT := ⟨0, 5⟩
def types : List (TypeId × TI) := [
  (1, ⟨.func, 1, 8, .nilf⟩),
  (2, ⟨.int .i64, 1, 8, .int .i64 0⟩),
  (3, ⟨.int .i64, 1, 8, .int .i64 0⟩),
  (4, ⟨.bool, 1, 1, .bool false⟩),
  (5, ⟨.int .u8, 1, 1, .int .u8 0⟩),
  (9, ⟨.str, 1, 16, .str ⟨#[]⟩⟩),
  (12, ⟨.int .u64, 1, 8, .int .u64 0⟩),
  (15, ⟨.ptr, 1, 8, .nilp⟩),
  (16, ⟨.ptr, 1, 8, .nilp⟩),
  (17, ⟨.ptr, 1, 8, .nilp⟩),
  (20, ⟨.iface, 1, 16, .nili⟩),
  (21, ⟨.int .i32, 1, 4, .int .i32 0⟩),
  (22, ⟨.slice 29, 1, 24, .emp⟩),
  (23, ⟨.func, 1, 8, .nilf⟩),
  (24, ⟨.slice 3, 1, 24, .emp⟩),
  (26, ⟨.func, 1, 8, .nilf⟩),
  (27, ⟨.func, 1, 8, .nilf⟩),
  (28, ⟨.strct [(0, 4), (1, 9), (2, 3), (3, 3)], 4, 40, .agg [.bool false, .str ⟨#[]⟩, .int .i64 0, .int .i64 0]⟩),
  (29, ⟨.strct [(0, 4), (1, 9), (2, 3), (3, 3)], 4, 40, .agg [.bool false, .str ⟨#[]⟩, .int .i64 0, .int .i64 0]⟩),
  (30, ⟨.func, 1, 8, .nilf⟩),
  (31, ⟨.func, 1, 8, .nilf⟩),
  (32, ⟨.func, 1, 8, .nilf⟩),
  (33, ⟨.func, 1, 8, .nilf⟩),
  (34, ⟨.slice 36, 1, 24, .emp⟩),
  (35, ⟨.strct [(0, 4), (1, 9), (2, 3), (3, 3)], 4, 40, .agg [.bool false, .str ⟨#[]⟩, .int .i64 0, .int .i64 0]⟩),
  (36, ⟨.strct [(0, 4), (1, 9), (2, 3), (3, 3)], 4, 40, .agg [.bool false, .str ⟨#[]⟩, .int .i64 0, .int .i64 0]⟩),
  (37, ⟨.func, 1, 8, .nilf⟩),
  (38, ⟨.func, 1, 8, .nilf⟩),
  (39, ⟨.array 3 3, 3, 24, .agg [.int .i64 0, .int .i64 0, .int .i64 0]⟩),
  (40, ⟨.func, 1, 8, .nilf⟩),
  (41, ⟨.func, 1, 8, .nilf⟩),
  (42, ⟨.ptr, 1, 8, .nilp⟩),
  (43, ⟨.map 49 3, 1, 8, .nilm⟩),
  (44, ⟨.int .u64, 1, 8, .int .u64 0⟩),
  (45, ⟨.strct [(0, 22), (1, 44), (2, 43), (3, 24)], 4, 64, .agg [.emp, .int .u64 0, .nilm, .emp]⟩),
  (46, ⟨.strct [(0, 22), (1, 44), (2, 43), (3, 24)], 4, 64, .agg [.emp, .int .u64 0, .nilm, .emp]⟩),
  (47, ⟨.func, 1, 8, .nilf⟩),
  (48, ⟨.strct [(0, 44), (1, 3)], 2, 16, .agg [.int .u64 0, .int .i64 0]⟩),
  (49, ⟨.strct [(0, 44), (1, 3)], 2, 16, .agg [.int .u64 0, .int .i64 0]⟩),
  (50, ⟨.func, 1, 8, .nilf⟩),
  (51, ⟨.func, 1, 8, .nilf⟩),
  (52, ⟨.func, 1, 8, .nilf⟩),
  (53, ⟨.func, 1, 8, .nilf⟩),
  (54, ⟨.int .u32, 1, 4, .int .u32 0⟩),
  (55, ⟨.func, 1, 8, .nilf⟩),
  (56, ⟨.int .u64, 1, 8, .int .u64 0⟩),
  (57, ⟨.func, 1, 8, .nilf⟩),
  (58, ⟨.func, 1, 8, .nilf⟩),
  (64, ⟨.func, 1, 8, .nilf⟩),
  (67, ⟨.func, 1, 8, .nilf⟩),
  (68, ⟨.ptr, 1, 8, .nilp⟩)]
/-- countersign/countersignlaw24.HistOrders -/
noncomputable def b3 : Code := Try.f3.body.getD .skip
noncomputable def fi3 : FI := ⟨b3, 67, [.tmp 2], .pure⟩
/-- countersign/countersignlaw24.HistRight -/
noncomputable def b4 : Code := Try.f4.body.getD .skip
noncomputable def fi4 : FI := ⟨b4, 66, [.tmp 2], .pure⟩
/-- countersign/countersignlaw24.HistTurns -/
noncomputable def b5 : Code := Try.f5.body.getD .skip
noncomputable def fi5 : FI := ⟨b5, 65, [.tmp 4], .pure⟩
/-- countersign/countersignlaw24.HistWider -/
noncomputable def b6 : Code := Try.f6.body.getD .skip
noncomputable def fi6 : FI := ⟨b6, 98, [.tmp 4], .pure⟩
/-- countersign/countersignlaw24.HistReads -/
noncomputable def b7 : Code := Try.f7.body.getD .skip
noncomputable def fi7 : FI := ⟨b7, 83, [.tmp 4], .pure⟩
/-- countersign/countersignlaw24.fixed -/
noncomputable def b8 : Code := Try.f8.body.getD .skip
noncomputable def fi8 : FI := ⟨b8, 70, [.tmp 0], .pure⟩
/-- countersign/hist.Order -/
noncomputable def b9 : Code := Try.f9.body.getD .skip
noncomputable def fi9 : FI := ⟨b9, 53, [.tmp 2, .tmp 3], .pure⟩
/-- countersign/countersignref24.Order -/
noncomputable def b10 : Code := Try.f10.body.getD .skip
noncomputable def fi10 : FI := ⟨b10, 12, [.tmp 2, .tmp 3], .pure⟩
/-- countersign/hist.Ahead -/
noncomputable def b11 : Code := Try.f11.body.getD .skip
noncomputable def fi11 : FI := ⟨b11, 15, [.tmp 4], .pure⟩
/-- countersign/countersignref24.Ahead -/
noncomputable def b12 : Code := Try.f12.body.getD .skip
noncomputable def fi12 : FI := ⟨b12, 15, [.tmp 4], .pure⟩
/-- countersign/countersignref24.Same -/
noncomputable def b13 : Code := Try.f13.body.getD .skip
noncomputable def fi13 : FI := ⟨b13, 26, [.tmp 4], .borrow⟩
/-- countersign/hist.Fits -/
noncomputable def b14 : Code := Try.f14.body.getD .skip
noncomputable def fi14 : FI := ⟨b14, 11, [.tmp 2], .borrow⟩
/-- countersign/countersignref24.Has -/
noncomputable def b15 : Code := Try.f15.body.getD .skip
noncomputable def fi15 : FI := ⟨b15, 18, [.tmp 4], .borrow⟩
/-- countersign/countersignref24.All -/
noncomputable def b16 : Code := Try.f16.body.getD .skip
noncomputable def fi16 : FI := ⟨b16, 24, [.tmp 4], .borrow⟩
/-- countersign/countersignref24.Right -/
noncomputable def b17 : Code := Try.f17.body.getD .skip
noncomputable def fi17 : FI := ⟨b17, 56, [.tmp 4], .borrow⟩
/-- countersign/countersignlaw24.spread -/
noncomputable def b18 : Code := Try.f18.body.getD .skip
noncomputable def fi18 : FI := ⟨b18, 7, [.tmp 2], .pure⟩
/-- (*countersign/hist.seeker).seek -/
noncomputable def b19 : Code := Try.f19.body.getD .skip
noncomputable def fi19 : FI := ⟨b19, 90, [.tmp 4], .keep⟩
/-- math/bits.OnesCount -/
noncomputable def b20 : Code := Try.f20.body.getD .skip
noncomputable def fi20 : FI := ⟨b20, 8, [.tmp 2], .pure⟩
/-- countersign/countersignref24.seek -/
noncomputable def b21 : Code := Try.f21.body.getD .skip
noncomputable def fi21 : FI := ⟨b21, 41, [.tmp 4, .tmp 5], .keep⟩
/-- (*countersign/hist.seeker).next -/
noncomputable def b22 : Code := Try.f22.body.getD .skip
noncomputable def fi22 : FI := ⟨b22, 69, [.tmp 6], .keep⟩
/-- math/bits.OnesCount32 -/
noncomputable def b23 : Code := Try.f23.body.getD .skip
noncomputable def fi23 : FI := ⟨b23, 21, [.tmp 2], .pure⟩
/-- math/bits.OnesCount64 -/
noncomputable def b24 : Code := Try.f24.body.getD .skip
noncomputable def fi24 : FI := ⟨b24, 35, [.tmp 2], .pure⟩
/-- (*countersign/hist.seeker).text -/
noncomputable def b25 : Code := Try.f25.body.getD .skip
noncomputable def fi25 : FI := ⟨b25, 15, [.tmp 4], .full⟩
noncomputable def fns : List (FuncId × FI) := [(3, fi3), (4, fi4), (5, fi5), (6, fi6), (7, fi7), (8, fi8), (9, fi9), (10, fi10), (11, fi11), (12, fi12), (13, fi13), (14, fi14), (15, fi15), (16, fi16), (17, fi17), (18, fi18), (19, fi19), (20, fi20), (21, fi21), (22, fi22), (23, fi23), (24, fi24), (25, fi25)]
def givens (f : FuncId) : Option Given := none
def flags (i n d : Nat) : List Tmp := bif Nat.beq i 2 && Nat.beq n 30 && Nat.beq d 46 then [4, 7] else []
noncomputable def cfg : Cfg := ⟨look types, lookF fns, givens, fun _ _ => none, flags⟩
theorem T1 : cfg.T 1 = some ⟨.func, 1, 8, .nilf⟩ := rfl
theorem T2 : cfg.T 2 = some ⟨.int .i64, 1, 8, .int .i64 0⟩ := rfl
theorem T3 : cfg.T 3 = some ⟨.int .i64, 1, 8, .int .i64 0⟩ := rfl
theorem T4 : cfg.T 4 = some ⟨.bool, 1, 1, .bool false⟩ := rfl
theorem T5 : cfg.T 5 = some ⟨.int .u8, 1, 1, .int .u8 0⟩ := rfl
theorem T9 : cfg.T 9 = some ⟨.str, 1, 16, .str ⟨#[]⟩⟩ := rfl
theorem T12 : cfg.T 12 = some ⟨.int .u64, 1, 8, .int .u64 0⟩ := rfl
theorem T15 : cfg.T 15 = some ⟨.ptr, 1, 8, .nilp⟩ := rfl
theorem T16 : cfg.T 16 = some ⟨.ptr, 1, 8, .nilp⟩ := rfl
theorem T17 : cfg.T 17 = some ⟨.ptr, 1, 8, .nilp⟩ := rfl
theorem T20 : cfg.T 20 = some ⟨.iface, 1, 16, .nili⟩ := rfl
theorem T21 : cfg.T 21 = some ⟨.int .i32, 1, 4, .int .i32 0⟩ := rfl
theorem T22 : cfg.T 22 = some ⟨.slice 29, 1, 24, .emp⟩ := rfl
theorem T23 : cfg.T 23 = some ⟨.func, 1, 8, .nilf⟩ := rfl
theorem T24 : cfg.T 24 = some ⟨.slice 3, 1, 24, .emp⟩ := rfl
theorem T26 : cfg.T 26 = some ⟨.func, 1, 8, .nilf⟩ := rfl
theorem T27 : cfg.T 27 = some ⟨.func, 1, 8, .nilf⟩ := rfl
theorem T28 : cfg.T 28 = some ⟨.strct [(0, 4), (1, 9), (2, 3), (3, 3)], 4, 40, .agg [.bool false, .str ⟨#[]⟩, .int .i64 0, .int .i64 0]⟩ := rfl
theorem T29 : cfg.T 29 = some ⟨.strct [(0, 4), (1, 9), (2, 3), (3, 3)], 4, 40, .agg [.bool false, .str ⟨#[]⟩, .int .i64 0, .int .i64 0]⟩ := rfl
theorem T30 : cfg.T 30 = some ⟨.func, 1, 8, .nilf⟩ := rfl
theorem T31 : cfg.T 31 = some ⟨.func, 1, 8, .nilf⟩ := rfl
theorem T32 : cfg.T 32 = some ⟨.func, 1, 8, .nilf⟩ := rfl
theorem T33 : cfg.T 33 = some ⟨.func, 1, 8, .nilf⟩ := rfl
theorem T34 : cfg.T 34 = some ⟨.slice 36, 1, 24, .emp⟩ := rfl
theorem T35 : cfg.T 35 = some ⟨.strct [(0, 4), (1, 9), (2, 3), (3, 3)], 4, 40, .agg [.bool false, .str ⟨#[]⟩, .int .i64 0, .int .i64 0]⟩ := rfl
theorem T36 : cfg.T 36 = some ⟨.strct [(0, 4), (1, 9), (2, 3), (3, 3)], 4, 40, .agg [.bool false, .str ⟨#[]⟩, .int .i64 0, .int .i64 0]⟩ := rfl
theorem T37 : cfg.T 37 = some ⟨.func, 1, 8, .nilf⟩ := rfl
theorem T38 : cfg.T 38 = some ⟨.func, 1, 8, .nilf⟩ := rfl
theorem T39 : cfg.T 39 = some ⟨.array 3 3, 3, 24, .agg [.int .i64 0, .int .i64 0, .int .i64 0]⟩ := rfl
theorem T40 : cfg.T 40 = some ⟨.func, 1, 8, .nilf⟩ := rfl
theorem T41 : cfg.T 41 = some ⟨.func, 1, 8, .nilf⟩ := rfl
theorem T42 : cfg.T 42 = some ⟨.ptr, 1, 8, .nilp⟩ := rfl
theorem T43 : cfg.T 43 = some ⟨.map 49 3, 1, 8, .nilm⟩ := rfl
theorem T44 : cfg.T 44 = some ⟨.int .u64, 1, 8, .int .u64 0⟩ := rfl
theorem T45 : cfg.T 45 = some ⟨.strct [(0, 22), (1, 44), (2, 43), (3, 24)], 4, 64, .agg [.emp, .int .u64 0, .nilm, .emp]⟩ := rfl
theorem T46 : cfg.T 46 = some ⟨.strct [(0, 22), (1, 44), (2, 43), (3, 24)], 4, 64, .agg [.emp, .int .u64 0, .nilm, .emp]⟩ := rfl
theorem T47 : cfg.T 47 = some ⟨.func, 1, 8, .nilf⟩ := rfl
theorem T48 : cfg.T 48 = some ⟨.strct [(0, 44), (1, 3)], 2, 16, .agg [.int .u64 0, .int .i64 0]⟩ := rfl
theorem T49 : cfg.T 49 = some ⟨.strct [(0, 44), (1, 3)], 2, 16, .agg [.int .u64 0, .int .i64 0]⟩ := rfl
theorem T50 : cfg.T 50 = some ⟨.func, 1, 8, .nilf⟩ := rfl
theorem T51 : cfg.T 51 = some ⟨.func, 1, 8, .nilf⟩ := rfl
theorem T52 : cfg.T 52 = some ⟨.func, 1, 8, .nilf⟩ := rfl
theorem T53 : cfg.T 53 = some ⟨.func, 1, 8, .nilf⟩ := rfl
theorem T54 : cfg.T 54 = some ⟨.int .u32, 1, 4, .int .u32 0⟩ := rfl
theorem T55 : cfg.T 55 = some ⟨.func, 1, 8, .nilf⟩ := rfl
theorem T56 : cfg.T 56 = some ⟨.int .u64, 1, 8, .int .u64 0⟩ := rfl
theorem T57 : cfg.T 57 = some ⟨.func, 1, 8, .nilf⟩ := rfl
theorem T58 : cfg.T 58 = some ⟨.func, 1, 8, .nilf⟩ := rfl
theorem T64 : cfg.T 64 = some ⟨.func, 1, 8, .nilf⟩ := rfl
theorem T67 : cfg.T 67 = some ⟨.func, 1, 8, .nilf⟩ := rfl
theorem T68 : cfg.T 68 = some ⟨.ptr, 1, 8, .nilp⟩ := rfl
theorem F3 : cfg.fn 3 = some fi3 := rfl
theorem g3 : cfg.given 3 = none := rfl
theorem F4 : cfg.fn 4 = some fi4 := rfl
theorem g4 : cfg.given 4 = none := rfl
theorem F5 : cfg.fn 5 = some fi5 := rfl
theorem g5 : cfg.given 5 = none := rfl
theorem F6 : cfg.fn 6 = some fi6 := rfl
theorem g6 : cfg.given 6 = none := rfl
theorem F7 : cfg.fn 7 = some fi7 := rfl
theorem g7 : cfg.given 7 = none := rfl
theorem F8 : cfg.fn 8 = some fi8 := rfl
theorem g8 : cfg.given 8 = none := rfl
theorem F9 : cfg.fn 9 = some fi9 := rfl
theorem g9 : cfg.given 9 = none := rfl
theorem F10 : cfg.fn 10 = some fi10 := rfl
theorem g10 : cfg.given 10 = none := rfl
theorem F11 : cfg.fn 11 = some fi11 := rfl
theorem g11 : cfg.given 11 = none := rfl
theorem F12 : cfg.fn 12 = some fi12 := rfl
theorem g12 : cfg.given 12 = none := rfl
theorem F13 : cfg.fn 13 = some fi13 := rfl
theorem g13 : cfg.given 13 = none := rfl
theorem F14 : cfg.fn 14 = some fi14 := rfl
theorem g14 : cfg.given 14 = none := rfl
theorem F15 : cfg.fn 15 = some fi15 := rfl
theorem g15 : cfg.given 15 = none := rfl
theorem F16 : cfg.fn 16 = some fi16 := rfl
theorem g16 : cfg.given 16 = none := rfl
theorem F17 : cfg.fn 17 = some fi17 := rfl
theorem g17 : cfg.given 17 = none := rfl
theorem F18 : cfg.fn 18 = some fi18 := rfl
theorem g18 : cfg.given 18 = none := rfl
theorem F19 : cfg.fn 19 = some fi19 := rfl
theorem g19 : cfg.given 19 = none := rfl
theorem F20 : cfg.fn 20 = some fi20 := rfl
theorem g20 : cfg.given 20 = none := rfl
theorem F21 : cfg.fn 21 = some fi21 := rfl
theorem g21 : cfg.given 21 = none := rfl
theorem F22 : cfg.fn 22 = some fi22 := rfl
theorem g22 : cfg.given 22 = none := rfl
theorem F23 : cfg.fn 23 = some fi23 := rfl
theorem g23 : cfg.given 23 = none := rfl
theorem F24 : cfg.fn 24 = some fi24 := rfl
theorem g24 : cfg.given 24 = none := rfl
theorem F25 : cfg.fn 25 = some fi25 := rfl
theorem g25 : cfg.given 25 = none := rfl
theorem types_ok : (types.all fun p => tokB BT0 Try.prog p.1 p.2) = true := by kernel_rfl
theorem fok3 : FOK Try.prog cfg 3 fi3 := ⟨Try.f3, Try.func3, rfl, rfl, rfl, by kernel_rfl, by decide⟩
theorem fok4 : FOK Try.prog cfg 4 fi4 := ⟨Try.f4, Try.func4, rfl, rfl, rfl, by kernel_rfl, by decide⟩
theorem fok5 : FOK Try.prog cfg 5 fi5 := ⟨Try.f5, Try.func5, rfl, rfl, rfl, by kernel_rfl, by decide⟩
theorem fok6 : FOK Try.prog cfg 6 fi6 := ⟨Try.f6, Try.func6, rfl, rfl, rfl, by kernel_rfl, by decide⟩
theorem fok7 : FOK Try.prog cfg 7 fi7 := ⟨Try.f7, Try.func7, rfl, rfl, rfl, by kernel_rfl, by decide⟩
theorem fok8 : FOK Try.prog cfg 8 fi8 := ⟨Try.f8, Try.func8, rfl, rfl, rfl, by kernel_rfl, by decide⟩
theorem fok9 : FOK Try.prog cfg 9 fi9 := ⟨Try.f9, Try.func9, rfl, rfl, rfl, by kernel_rfl, by decide⟩
theorem fok10 : FOK Try.prog cfg 10 fi10 := ⟨Try.f10, Try.func10, rfl, rfl, rfl, by kernel_rfl, by decide⟩
theorem fok11 : FOK Try.prog cfg 11 fi11 := ⟨Try.f11, Try.func11, rfl, rfl, rfl, by kernel_rfl, by decide⟩
theorem fok12 : FOK Try.prog cfg 12 fi12 := ⟨Try.f12, Try.func12, rfl, rfl, rfl, by kernel_rfl, by decide⟩
theorem fok13 : FOK Try.prog cfg 13 fi13 := ⟨Try.f13, Try.func13, rfl, rfl, rfl, by kernel_rfl, by decide⟩
theorem fok14 : FOK Try.prog cfg 14 fi14 := ⟨Try.f14, Try.func14, rfl, rfl, rfl, by kernel_rfl, by decide⟩
theorem fok15 : FOK Try.prog cfg 15 fi15 := ⟨Try.f15, Try.func15, rfl, rfl, rfl, by kernel_rfl, by decide⟩
theorem fok16 : FOK Try.prog cfg 16 fi16 := ⟨Try.f16, Try.func16, rfl, rfl, rfl, by kernel_rfl, by decide⟩
theorem fok17 : FOK Try.prog cfg 17 fi17 := ⟨Try.f17, Try.func17, rfl, rfl, rfl, by kernel_rfl, by decide⟩
theorem fok18 : FOK Try.prog cfg 18 fi18 := ⟨Try.f18, Try.func18, rfl, rfl, rfl, by kernel_rfl, by decide⟩
theorem fok19 : FOK Try.prog cfg 19 fi19 := ⟨Try.f19, Try.func19, rfl, rfl, rfl, by kernel_rfl, by decide⟩
theorem fok20 : FOK Try.prog cfg 20 fi20 := ⟨Try.f20, Try.func20, rfl, rfl, rfl, by kernel_rfl, by decide⟩
theorem fok21 : FOK Try.prog cfg 21 fi21 := ⟨Try.f21, Try.func21, rfl, rfl, rfl, by kernel_rfl, by decide⟩
theorem fok22 : FOK Try.prog cfg 22 fi22 := ⟨Try.f22, Try.func22, rfl, rfl, rfl, by kernel_rfl, by decide⟩
theorem fok23 : FOK Try.prog cfg 23 fi23 := ⟨Try.f23, Try.func23, rfl, rfl, rfl, by kernel_rfl, by decide⟩
theorem fok24 : FOK Try.prog cfg 24 fi24 := ⟨Try.f24, Try.func24, rfl, rfl, rfl, by kernel_rfl, by decide⟩
theorem fok25 : FOK Try.prog cfg 25 fi25 := ⟨Try.f25, Try.func25, rfl, rfl, rfl, by kernel_rfl, by decide⟩
theorem cok : COK BT0 Try.prog cfg where
  T := look_ok types_ok
  fn := lookF_ok (fun p hp => by
    simp only [fns, List.mem_cons, List.not_mem_nil, or_false] at hp
    rcases hp with rfl | rfl | rfl | rfl | rfl | rfl | rfl | rfl | rfl | rfl | rfl | rfl | rfl | rfl | rfl | rfl | rfl | rfl | rfl | rfl | rfl | rfl | rfl
    · exact fok3
    · exact fok4
    · exact fok5
    · exact fok6
    · exact fok7
    · exact fok8
    · exact fok9
    · exact fok10
    · exact fok11
    · exact fok12
    · exact fok13
    · exact fok14
    · exact fok15
    · exact fok16
    · exact fok17
    · exact fok18
    · exact fok19
    · exact fok20
    · exact fok21
    · exact fok22
    · exact fok23
    · exact fok24
    · exact fok25)
  given := fun f g h => by simp [cfg, givens] at h
  meth := fun t m f h => by cases h
  mixed := by kernel_rfl
end Go.Proofs.Ytgeadlkaniggdaa.X
