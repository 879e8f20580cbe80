/- The configuration of the simple machine for this seat, written by a program of this claim's (xcfg.py). -/
import Derived.Test.YtamdokgbenbndaaProg
import Derived.Test.YtamdokgbenbndaaL
import Derived.Test.YtamdokgbenbndaaW
import Derived.Test.YtamdokgbenbndaaMt
set_option linter.unusedVariables false
set_option maxRecDepth 100000
namespace Go.Proofs.Ytamdokgbenbndaa.X
open Go Go.RowKit
def BT0 : BT := ⟨0, 5⟩
def types : List (TypeId × TI) := [
  (1, ⟨.func, 1, 8, .nilf⟩),
  (2, ⟨.int .i64, 1, 8, .int .i64 0⟩),
  (3, ⟨.int .i64, 1, 8, .int .i64 0⟩),
  (4, ⟨.bool, 1, 1, .bool false⟩),
  (5, ⟨.int .u8, 1, 1, .int .u8 0⟩),
  (9, ⟨.str, 1, 16, .str ⟨#[]⟩⟩),
  (12, ⟨.int .u64, 1, 8, .int .u64 0⟩),
  (15, ⟨.ptr, 1, 8, .nilp⟩),
  (16, ⟨.ptr, 1, 8, .nilp⟩),
  (17, ⟨.ptr, 1, 8, .nilp⟩),
  (20, ⟨.iface, 1, 16, .nili⟩),
  (21, ⟨.int .i32, 1, 4, .int .i32 0⟩),
  (22, ⟨.slice 29, 1, 24, .emp⟩),
  (23, ⟨.int .u64, 1, 8, .int .u64 0⟩),
  (24, ⟨.func, 1, 8, .nilf⟩),
  (25, ⟨.ptr, 1, 8, .nilp⟩),
  (26, ⟨.func, 1, 8, .nilf⟩),
  (27, ⟨.func, 1, 8, .nilf⟩),
  (28, ⟨.strct [(0, 23), (1, 9)], 2, 24, .agg [.int .u64 0, .str ⟨#[]⟩]⟩),
  (29, ⟨.strct [(0, 23), (1, 9)], 2, 24, .agg [.int .u64 0, .str ⟨#[]⟩]⟩),
  (31, ⟨.func, 1, 8, .nilf⟩),
  (32, ⟨.func, 1, 8, .nilf⟩),
  (33, ⟨.func, 1, 8, .nilf⟩),
  (34, ⟨.func, 1, 8, .nilf⟩),
  (35, ⟨.func, 1, 8, .nilf⟩),
  (36, ⟨.func, 1, 8, .nilf⟩),
  (37, ⟨.slice 39, 1, 24, .emp⟩),
  (38, ⟨.strct [(0, 3), (1, 23), (2, 9)], 3, 32, .agg [.int .i64 0, .int .u64 0, .str ⟨#[]⟩]⟩),
  (39, ⟨.strct [(0, 3), (1, 23), (2, 9)], 3, 32, .agg [.int .i64 0, .int .u64 0, .str ⟨#[]⟩]⟩),
  (40, ⟨.func, 1, 8, .nilf⟩),
  (41, ⟨.func, 1, 8, .nilf⟩),
  (42, ⟨.func, 1, 8, .nilf⟩),
  (43, ⟨.func, 1, 8, .nilf⟩),
  (44, ⟨.func, 1, 8, .nilf⟩),
  (45, ⟨.func, 1, 8, .nilf⟩),
  (46, ⟨.slice 53, 1, 24, .emp⟩),
  (47, ⟨.slice 53, 1, 24, .emp⟩),
  (48, ⟨.strct [(0, 47), (1, 3)], 2, 32, .agg [.emp, .int .i64 0]⟩),
  (49, ⟨.strct [(0, 47), (1, 3)], 2, 32, .agg [.emp, .int .i64 0]⟩),
  (50, ⟨.func, 1, 8, .nilf⟩),
  (51, ⟨.ptr, 1, 8, .nilp⟩),
  (52, ⟨.strct [(0, 29), (2, 3)], 3, 32, .agg [.int .u64 0, .str ⟨#[]⟩, .int .i64 0]⟩),
  (53, ⟨.strct [(0, 29), (2, 3)], 3, 32, .agg [.int .u64 0, .str ⟨#[]⟩, .int .i64 0]⟩),
  (54, ⟨.func, 1, 8, .nilf⟩),
  (55, ⟨.func, 1, 8, .nilf⟩),
  (56, ⟨.func, 1, 8, .nilf⟩),
  (57, ⟨.func, 1, 8, .nilf⟩),
  (58, ⟨.iface, 1, 16, .nili⟩),
  (59, ⟨.iface, 1, 16, .nili⟩),
  (60, ⟨.func, 1, 8, .nilf⟩),
  (61, ⟨.func, 1, 8, .nilf⟩),
  (62, ⟨.func, 1, 8, .nilf⟩),
  (63, ⟨.func, 1, 8, .nilf⟩),
  (64, ⟨.func, 1, 8, .nilf⟩),
  (65, ⟨.func, 1, 8, .nilf⟩),
  (66, ⟨.func, 1, 8, .nilf⟩),
  (67, ⟨.func, 1, 8, .nilf⟩),
  (73, ⟨.int .u32, 1, 4, .int .u32 0⟩),
  (76, ⟨.func, 1, 8, .nilf⟩),
  (77, ⟨.ptr, 1, 8, .nilp⟩),
  (82, ⟨.func, 1, 8, .nilf⟩),
  (83, ⟨.func, 1, 8, .nilf⟩),
  (84, ⟨.func, 1, 8, .nilf⟩),
  (85, ⟨.slice 3, 1, 24, .emp⟩),
  (86, ⟨.func, 1, 8, .nilf⟩),
  (87, ⟨.func, 1, 8, .nilf⟩)]
/-- countersign/countersignlaw20.TimerOrders -/
noncomputable def b3 : Code := Try.f3.body.getD .skip
noncomputable def fi3 : FI := ⟨b3, 165, [.tmp 4], .pure⟩
/-- countersign/countersignlaw20.TimerNext -/
noncomputable def b4 : Code := Try.f4.body.getD .skip
noncomputable def fi4 : FI := ⟨b4, 95, [.tmp 2], .pure⟩
/-- countersign/countersignlaw20.TimerPlays -/
noncomputable def b5 : Code := Try.f5.body.getD .skip
noncomputable def fi5 : FI := ⟨b5, 146, [.tmp 2], .pure⟩
/-- countersign/countersignlaw20.TimerDrops -/
noncomputable def b6 : Code := Try.f6.body.getD .skip
noncomputable def fi6 : FI := ⟨b6, 113, [.tmp 6], .pure⟩
/-- countersign/countersignlaw20.fixed -/
noncomputable def b7 : Code := Try.f7.body.getD .skip
noncomputable def fi7 : FI := ⟨b7, 93, [.tmp 0], .pure⟩
/-- countersign/timer.New -/
noncomputable def b8 : Code := Try.f8.body.getD .skip
noncomputable def fi8 : FI := ⟨b8, 3, [.tmp 0], .keep⟩
/-- (*countersign/timer.Queue).Add -/
noncomputable def b9 : Code := Try.f9.body.getD .skip
noncomputable def fi9 : FI := ⟨b9, 34, [.tmp 6], .keep⟩
/-- (*countersign/timer.Queue).Pop -/
noncomputable def b10 : Code := Try.f10.body.getD .skip
noncomputable def fi10 : FI := ⟨b10, 28, [.cell 4 29, .tmp 5], .keep⟩
/-- (*countersign/timer.Queue).Many -/
noncomputable def b11 : Code := Try.f11.body.getD .skip
noncomputable def fi11 : FI := ⟨b11, 8, [.tmp 2], .keep⟩
/-- (*countersign/timer.Queue).Next -/
noncomputable def b12 : Code := Try.f12.body.getD .skip
noncomputable def fi12 : FI := ⟨b12, 18, [.cell 2 29, .tmp 3], .keep⟩
/-- countersign/countersignlaw20.early -/
noncomputable def b13 : Code := Try.f13.body.getD .skip
noncomputable def fi13 : FI := ⟨b13, 14, [.tmp 4], .keep⟩
/-- countersign/countersignref20.Next -/
noncomputable def b14 : Code := Try.f14.body.getD .skip
noncomputable def fi14 : FI := ⟨b14, 28, [.tmp 2], .borrow⟩
/-- countersign/countersignref20.Without -/
noncomputable def b15 : Code := Try.f15.body.getD .skip
noncomputable def fi15 : FI := ⟨b15, 25, [.tmp 4], .keep⟩
/-- countersign/countersignref20.Drop -/
noncomputable def b16 : Code := Try.f16.body.getD .skip
noncomputable def fi16 : FI := ⟨b16, 29, [.tmp 4], .keep⟩
/-- (*countersign/timer.Queue).Drop -/
noncomputable def b17 : Code := Try.f17.body.getD .skip
noncomputable def fi17 : FI := ⟨b17, 32, [.tmp 4], .keep⟩
/-- container/heap.Push -/
noncomputable def b18 : Code := Try.f18.body.getD .skip
noncomputable def fi18 : FI := ⟨b18, 12, [], .keep⟩
/-- container/heap.Pop -/
noncomputable def b19 : Code := Try.f19.body.getD .skip
noncomputable def fi19 : FI := ⟨b19, 15, [.tmp 2], .keep⟩
/-- slices.DeleteFunc[countersign/timer.items,countersign/timer.item] -/
noncomputable def b20 : Code := Try.f20.body.getD .skip
noncomputable def fi20 : FI := ⟨b20, 42, [.tmp 4], .keep⟩
/-- (*countersign/timer.Queue).Drop$1 -/
noncomputable def b21 : Code := Try.f21.body.getD .skip
noncomputable def fi21 : FI := ⟨b21, 9, [.tmp 3], .full⟩
/-- container/heap.Init -/
noncomputable def b22 : Code := Try.f22.body.getD .skip
noncomputable def fi22 : FI := ⟨b22, 17, [], .keep⟩
/-- container/heap.up -/
noncomputable def b23 : Code := Try.f23.body.getD .skip
noncomputable def fi23 : FI := ⟨b23, 23, [], .keep⟩
/-- container/heap.down -/
noncomputable def b24 : Code := Try.f24.body.getD .skip
noncomputable def fi24 : FI := ⟨b24, 48, [.tmp 6], .keep⟩
/-- slices.IndexFunc[countersign/timer.items,countersign/timer.item] -/
noncomputable def b25 : Code := Try.f25.body.getD .skip
noncomputable def fi25 : FI := ⟨b25, 19, [.tmp 4], .full⟩
/-- (countersign/timer.items).Len -/
noncomputable def b42 : Code := Try.f42.body.getD .skip
noncomputable def fi42 : FI := ⟨b42, 5, [.tmp 2], .borrow⟩
/-- (countersign/timer.items).Less -/
noncomputable def b43 : Code := Try.f43.body.getD .skip
noncomputable def fi43 : FI := ⟨b43, 34, [.tmp 6], .borrow⟩
/-- (*countersign/timer.items).Push -/
noncomputable def b44 : Code := Try.f44.body.getD .skip
noncomputable def fi44 : FI := ⟨b44, 13, [], .keep⟩
/-- (countersign/timer.items).Swap -/
noncomputable def b45 : Code := Try.f45.body.getD .skip
noncomputable def fi45 : FI := ⟨b45, 20, [], .keep⟩
/-- cmp.Or[int] -/
noncomputable def b46 : Code := Try.f46.body.getD .skip
noncomputable def fi46 : FI := ⟨b46, 18, [.tmp 2], .pure⟩
/-- cmp.Compare[uint64] -/
noncomputable def b47 : Code := Try.f47.body.getD .skip
noncomputable def fi47 : FI := ⟨b47, 20, [.tmp 4], .pure⟩
/-- cmp.Compare[int] -/
noncomputable def b48 : Code := Try.f48.body.getD .skip
noncomputable def fi48 : FI := ⟨b48, 20, [.tmp 4], .pure⟩
/-- cmp.isNaN[uint64] -/
noncomputable def b49 : Code := Try.f49.body.getD .skip
noncomputable def fi49 : FI := ⟨b49, 6, [.tmp 2], .pure⟩
/-- cmp.isNaN[int] -/
noncomputable def b50 : Code := Try.f50.body.getD .skip
noncomputable def fi50 : FI := ⟨b50, 6, [.tmp 2], .pure⟩
/-- (*countersign/timer.items).Pop -/
noncomputable def b51 : Code := Try.f51.body.getD .skip
noncomputable def fi51 : FI := ⟨b51, 27, [.tmp 2], .keep⟩
noncomputable def fns : List (FuncId × FI) := [(3, fi3), (4, fi4), (5, fi5), (6, fi6), (7, fi7), (8, fi8), (9, fi9), (10, fi10), (11, fi11), (12, fi12), (13, fi13), (14, fi14), (15, fi15), (16, fi16), (17, fi17), (18, fi18), (19, fi19), (20, fi20), (21, fi21), (22, fi22), (23, fi23), (24, fi24), (25, fi25), (42, fi42), (43, fi43), (44, fi44), (45, fi45), (46, fi46), (47, fi47), (48, fi48), (49, fi49), (50, fi50), (51, fi51)]
def givens (f : FuncId) : Option Given := none
def meths (t : TypeId) (m : String) : Option (FuncId × Option TypeId) := if t = 25 ∧ m = "Add" then some (9, none) else if t = 25 ∧ m = "Drop" then some (17, none) else if t = 25 ∧ m = "Many" then some (11, none) else if t = 25 ∧ m = "Next" then some (12, none) else if t = 25 ∧ m = "Pop" then some (10, none) else if t = 51 ∧ m = "Len" then some (42, some 47) else if t = 51 ∧ m = "Less" then some (43, some 47) else if t = 51 ∧ m = "Pop" then some (51, none) else if t = 51 ∧ m = "Push" then some (44, none) else if t = 51 ∧ m = "Swap" then some (45, some 47) else none
def flags (i n d : Nat) : List Tmp := []
noncomputable def cfg : Cfg := ⟨look types, lookF fns, givens, meths, flags⟩
theorem T1 : cfg.T 1 = some ⟨.func, 1, 8, .nilf⟩ := rfl
theorem T2 : cfg.T 2 = some ⟨.int .i64, 1, 8, .int .i64 0⟩ := rfl
theorem T3 : cfg.T 3 = some ⟨.int .i64, 1, 8, .int .i64 0⟩ := rfl
theorem T4 : cfg.T 4 = some ⟨.bool, 1, 1, .bool false⟩ := rfl
theorem T5 : cfg.T 5 = some ⟨.int .u8, 1, 1, .int .u8 0⟩ := rfl
theorem T9 : cfg.T 9 = some ⟨.str, 1, 16, .str ⟨#[]⟩⟩ := rfl
theorem T12 : cfg.T 12 = some ⟨.int .u64, 1, 8, .int .u64 0⟩ := rfl
theorem T15 : cfg.T 15 = some ⟨.ptr, 1, 8, .nilp⟩ := rfl
theorem T16 : cfg.T 16 = some ⟨.ptr, 1, 8, .nilp⟩ := rfl
theorem T17 : cfg.T 17 = some ⟨.ptr, 1, 8, .nilp⟩ := rfl
theorem T20 : cfg.T 20 = some ⟨.iface, 1, 16, .nili⟩ := rfl
theorem T21 : cfg.T 21 = some ⟨.int .i32, 1, 4, .int .i32 0⟩ := rfl
theorem T22 : cfg.T 22 = some ⟨.slice 29, 1, 24, .emp⟩ := rfl
theorem T23 : cfg.T 23 = some ⟨.int .u64, 1, 8, .int .u64 0⟩ := rfl
theorem T24 : cfg.T 24 = some ⟨.func, 1, 8, .nilf⟩ := rfl
theorem T25 : cfg.T 25 = some ⟨.ptr, 1, 8, .nilp⟩ := rfl
theorem T26 : cfg.T 26 = some ⟨.func, 1, 8, .nilf⟩ := rfl
theorem T27 : cfg.T 27 = some ⟨.func, 1, 8, .nilf⟩ := rfl
theorem T28 : cfg.T 28 = some ⟨.strct [(0, 23), (1, 9)], 2, 24, .agg [.int .u64 0, .str ⟨#[]⟩]⟩ := rfl
theorem T29 : cfg.T 29 = some ⟨.strct [(0, 23), (1, 9)], 2, 24, .agg [.int .u64 0, .str ⟨#[]⟩]⟩ := rfl
theorem T31 : cfg.T 31 = some ⟨.func, 1, 8, .nilf⟩ := rfl
theorem T32 : cfg.T 32 = some ⟨.func, 1, 8, .nilf⟩ := rfl
theorem T33 : cfg.T 33 = some ⟨.func, 1, 8, .nilf⟩ := rfl
theorem T34 : cfg.T 34 = some ⟨.func, 1, 8, .nilf⟩ := rfl
theorem T35 : cfg.T 35 = some ⟨.func, 1, 8, .nilf⟩ := rfl
theorem T36 : cfg.T 36 = some ⟨.func, 1, 8, .nilf⟩ := rfl
theorem T37 : cfg.T 37 = some ⟨.slice 39, 1, 24, .emp⟩ := rfl
theorem T38 : cfg.T 38 = some ⟨.strct [(0, 3), (1, 23), (2, 9)], 3, 32, .agg [.int .i64 0, .int .u64 0, .str ⟨#[]⟩]⟩ := rfl
theorem T39 : cfg.T 39 = some ⟨.strct [(0, 3), (1, 23), (2, 9)], 3, 32, .agg [.int .i64 0, .int .u64 0, .str ⟨#[]⟩]⟩ := rfl
theorem T40 : cfg.T 40 = some ⟨.func, 1, 8, .nilf⟩ := rfl
theorem T41 : cfg.T 41 = some ⟨.func, 1, 8, .nilf⟩ := rfl
theorem T42 : cfg.T 42 = some ⟨.func, 1, 8, .nilf⟩ := rfl
theorem T43 : cfg.T 43 = some ⟨.func, 1, 8, .nilf⟩ := rfl
theorem T44 : cfg.T 44 = some ⟨.func, 1, 8, .nilf⟩ := rfl
theorem T45 : cfg.T 45 = some ⟨.func, 1, 8, .nilf⟩ := rfl
theorem T46 : cfg.T 46 = some ⟨.slice 53, 1, 24, .emp⟩ := rfl
theorem T47 : cfg.T 47 = some ⟨.slice 53, 1, 24, .emp⟩ := rfl
theorem T48 : cfg.T 48 = some ⟨.strct [(0, 47), (1, 3)], 2, 32, .agg [.emp, .int .i64 0]⟩ := rfl
theorem T49 : cfg.T 49 = some ⟨.strct [(0, 47), (1, 3)], 2, 32, .agg [.emp, .int .i64 0]⟩ := rfl
theorem T50 : cfg.T 50 = some ⟨.func, 1, 8, .nilf⟩ := rfl
theorem T51 : cfg.T 51 = some ⟨.ptr, 1, 8, .nilp⟩ := rfl
theorem T52 : cfg.T 52 = some ⟨.strct [(0, 29), (2, 3)], 3, 32, .agg [.int .u64 0, .str ⟨#[]⟩, .int .i64 0]⟩ := rfl
theorem T53 : cfg.T 53 = some ⟨.strct [(0, 29), (2, 3)], 3, 32, .agg [.int .u64 0, .str ⟨#[]⟩, .int .i64 0]⟩ := rfl
theorem T54 : cfg.T 54 = some ⟨.func, 1, 8, .nilf⟩ := rfl
theorem T55 : cfg.T 55 = some ⟨.func, 1, 8, .nilf⟩ := rfl
theorem T56 : cfg.T 56 = some ⟨.func, 1, 8, .nilf⟩ := rfl
theorem T57 : cfg.T 57 = some ⟨.func, 1, 8, .nilf⟩ := rfl
theorem T58 : cfg.T 58 = some ⟨.iface, 1, 16, .nili⟩ := rfl
theorem T59 : cfg.T 59 = some ⟨.iface, 1, 16, .nili⟩ := rfl
theorem T60 : cfg.T 60 = some ⟨.func, 1, 8, .nilf⟩ := rfl
theorem T61 : cfg.T 61 = some ⟨.func, 1, 8, .nilf⟩ := rfl
theorem T62 : cfg.T 62 = some ⟨.func, 1, 8, .nilf⟩ := rfl
theorem T63 : cfg.T 63 = some ⟨.func, 1, 8, .nilf⟩ := rfl
theorem T64 : cfg.T 64 = some ⟨.func, 1, 8, .nilf⟩ := rfl
theorem T65 : cfg.T 65 = some ⟨.func, 1, 8, .nilf⟩ := rfl
theorem T66 : cfg.T 66 = some ⟨.func, 1, 8, .nilf⟩ := rfl
theorem T67 : cfg.T 67 = some ⟨.func, 1, 8, .nilf⟩ := rfl
theorem T73 : cfg.T 73 = some ⟨.int .u32, 1, 4, .int .u32 0⟩ := rfl
theorem T76 : cfg.T 76 = some ⟨.func, 1, 8, .nilf⟩ := rfl
theorem T77 : cfg.T 77 = some ⟨.ptr, 1, 8, .nilp⟩ := rfl
theorem T82 : cfg.T 82 = some ⟨.func, 1, 8, .nilf⟩ := rfl
theorem T83 : cfg.T 83 = some ⟨.func, 1, 8, .nilf⟩ := rfl
theorem T84 : cfg.T 84 = some ⟨.func, 1, 8, .nilf⟩ := rfl
theorem T85 : cfg.T 85 = some ⟨.slice 3, 1, 24, .emp⟩ := rfl
theorem T86 : cfg.T 86 = some ⟨.func, 1, 8, .nilf⟩ := rfl
theorem T87 : cfg.T 87 = some ⟨.func, 1, 8, .nilf⟩ := rfl
theorem F3 : cfg.fn 3 = some fi3 := rfl
theorem g3 : cfg.given 3 = none := rfl
theorem F4 : cfg.fn 4 = some fi4 := rfl
theorem g4 : cfg.given 4 = none := rfl
theorem F5 : cfg.fn 5 = some fi5 := rfl
theorem g5 : cfg.given 5 = none := rfl
theorem F6 : cfg.fn 6 = some fi6 := rfl
theorem g6 : cfg.given 6 = none := rfl
theorem F7 : cfg.fn 7 = some fi7 := rfl
theorem g7 : cfg.given 7 = none := rfl
theorem F8 : cfg.fn 8 = some fi8 := rfl
theorem g8 : cfg.given 8 = none := rfl
theorem F9 : cfg.fn 9 = some fi9 := rfl
theorem g9 : cfg.given 9 = none := rfl
theorem F10 : cfg.fn 10 = some fi10 := rfl
theorem g10 : cfg.given 10 = none := rfl
theorem F11 : cfg.fn 11 = some fi11 := rfl
theorem g11 : cfg.given 11 = none := rfl
theorem F12 : cfg.fn 12 = some fi12 := rfl
theorem g12 : cfg.given 12 = none := rfl
theorem F13 : cfg.fn 13 = some fi13 := rfl
theorem g13 : cfg.given 13 = none := rfl
theorem F14 : cfg.fn 14 = some fi14 := rfl
theorem g14 : cfg.given 14 = none := rfl
theorem F15 : cfg.fn 15 = some fi15 := rfl
theorem g15 : cfg.given 15 = none := rfl
theorem F16 : cfg.fn 16 = some fi16 := rfl
theorem g16 : cfg.given 16 = none := rfl
theorem F17 : cfg.fn 17 = some fi17 := rfl
theorem g17 : cfg.given 17 = none := rfl
theorem F18 : cfg.fn 18 = some fi18 := rfl
theorem g18 : cfg.given 18 = none := rfl
theorem F19 : cfg.fn 19 = some fi19 := rfl
theorem g19 : cfg.given 19 = none := rfl
theorem F20 : cfg.fn 20 = some fi20 := rfl
theorem g20 : cfg.given 20 = none := rfl
theorem F21 : cfg.fn 21 = some fi21 := rfl
theorem g21 : cfg.given 21 = none := rfl
theorem F22 : cfg.fn 22 = some fi22 := rfl
theorem g22 : cfg.given 22 = none := rfl
theorem F23 : cfg.fn 23 = some fi23 := rfl
theorem g23 : cfg.given 23 = none := rfl
theorem F24 : cfg.fn 24 = some fi24 := rfl
theorem g24 : cfg.given 24 = none := rfl
theorem F25 : cfg.fn 25 = some fi25 := rfl
theorem g25 : cfg.given 25 = none := rfl
theorem F42 : cfg.fn 42 = some fi42 := rfl
theorem g42 : cfg.given 42 = none := rfl
theorem F43 : cfg.fn 43 = some fi43 := rfl
theorem g43 : cfg.given 43 = none := rfl
theorem F44 : cfg.fn 44 = some fi44 := rfl
theorem g44 : cfg.given 44 = none := rfl
theorem F45 : cfg.fn 45 = some fi45 := rfl
theorem g45 : cfg.given 45 = none := rfl
theorem F46 : cfg.fn 46 = some fi46 := rfl
theorem g46 : cfg.given 46 = none := rfl
theorem F47 : cfg.fn 47 = some fi47 := rfl
theorem g47 : cfg.given 47 = none := rfl
theorem F48 : cfg.fn 48 = some fi48 := rfl
theorem g48 : cfg.given 48 = none := rfl
theorem F49 : cfg.fn 49 = some fi49 := rfl
theorem g49 : cfg.given 49 = none := rfl
theorem F50 : cfg.fn 50 = some fi50 := rfl
theorem g50 : cfg.given 50 = none := rfl
theorem F51 : cfg.fn 51 = some fi51 := rfl
theorem g51 : cfg.given 51 = none := rfl
theorem M25Add : cfg.meth 25 "Add" = some (9, none) := by simp [cfg, meths]
theorem M25Drop : cfg.meth 25 "Drop" = some (17, none) := by simp [cfg, meths]
theorem M25Many : cfg.meth 25 "Many" = some (11, none) := by simp [cfg, meths]
theorem M25Next : cfg.meth 25 "Next" = some (12, none) := by simp [cfg, meths]
theorem M25Pop : cfg.meth 25 "Pop" = some (10, none) := by simp [cfg, meths]
theorem M51Len : cfg.meth 51 "Len" = some (42, some 47) := by simp [cfg, meths]
theorem M51Less : cfg.meth 51 "Less" = some (43, some 47) := by simp [cfg, meths]
theorem M51Pop : cfg.meth 51 "Pop" = some (51, none) := by simp [cfg, meths]
theorem M51Push : cfg.meth 51 "Push" = some (44, none) := by simp [cfg, meths]
theorem M51Swap : cfg.meth 51 "Swap" = some (45, some 47) := by simp [cfg, meths]
theorem types_ok : (types.all fun p => tokB BT0 Try.prog p.1 p.2) = true := by kernel_rfl
theorem fok3 : FOK Try.prog cfg 3 fi3 := ⟨Try.f3, Try.func3, rfl, rfl, rfl, by kernel_rfl, by decide⟩
theorem fok4 : FOK Try.prog cfg 4 fi4 := ⟨Try.f4, Try.func4, rfl, rfl, rfl, by kernel_rfl, by decide⟩
theorem fok5 : FOK Try.prog cfg 5 fi5 := ⟨Try.f5, Try.func5, rfl, rfl, rfl, by kernel_rfl, by decide⟩
theorem fok6 : FOK Try.prog cfg 6 fi6 := ⟨Try.f6, Try.func6, rfl, rfl, rfl, by kernel_rfl, by decide⟩
theorem fok7 : FOK Try.prog cfg 7 fi7 := ⟨Try.f7, Try.func7, rfl, rfl, rfl, by kernel_rfl, by decide⟩
theorem fok8 : FOK Try.prog cfg 8 fi8 := ⟨Try.f8, Try.func8, rfl, rfl, rfl, by kernel_rfl, by decide⟩
theorem fok9 : FOK Try.prog cfg 9 fi9 := ⟨Try.f9, Try.func9, rfl, rfl, rfl, by kernel_rfl, by decide⟩
theorem fok10 : FOK Try.prog cfg 10 fi10 := ⟨Try.f10, Try.func10, rfl, rfl, rfl, by kernel_rfl, by decide⟩
theorem fok11 : FOK Try.prog cfg 11 fi11 := ⟨Try.f11, Try.func11, rfl, rfl, rfl, by kernel_rfl, by decide⟩
theorem fok12 : FOK Try.prog cfg 12 fi12 := ⟨Try.f12, Try.func12, rfl, rfl, rfl, by kernel_rfl, by decide⟩
theorem fok13 : FOK Try.prog cfg 13 fi13 := ⟨Try.f13, Try.func13, rfl, rfl, rfl, by kernel_rfl, by decide⟩
theorem fok14 : FOK Try.prog cfg 14 fi14 := ⟨Try.f14, Try.func14, rfl, rfl, rfl, by kernel_rfl, by decide⟩
theorem fok15 : FOK Try.prog cfg 15 fi15 := ⟨Try.f15, Try.func15, rfl, rfl, rfl, by kernel_rfl, by decide⟩
theorem fok16 : FOK Try.prog cfg 16 fi16 := ⟨Try.f16, Try.func16, rfl, rfl, rfl, by kernel_rfl, by decide⟩
theorem fok17 : FOK Try.prog cfg 17 fi17 := ⟨Try.f17, Try.func17, rfl, rfl, rfl, by kernel_rfl, by decide⟩
theorem fok18 : FOK Try.prog cfg 18 fi18 := ⟨Try.f18, Try.func18, rfl, rfl, rfl, by kernel_rfl, by decide⟩
theorem fok19 : FOK Try.prog cfg 19 fi19 := ⟨Try.f19, Try.func19, rfl, rfl, rfl, by kernel_rfl, by decide⟩
theorem fok20 : FOK Try.prog cfg 20 fi20 := ⟨Try.f20, Try.func20, rfl, rfl, rfl, by kernel_rfl, by decide⟩
theorem fok21 : FOK Try.prog cfg 21 fi21 := ⟨Try.f21, Try.func21, rfl, rfl, rfl, by kernel_rfl, by decide⟩
theorem fok22 : FOK Try.prog cfg 22 fi22 := ⟨Try.f22, Try.func22, rfl, rfl, rfl, by kernel_rfl, by decide⟩
theorem fok23 : FOK Try.prog cfg 23 fi23 := ⟨Try.f23, Try.func23, rfl, rfl, rfl, by kernel_rfl, by decide⟩
theorem fok24 : FOK Try.prog cfg 24 fi24 := ⟨Try.f24, Try.func24, rfl, rfl, rfl, by kernel_rfl, by decide⟩
theorem fok25 : FOK Try.prog cfg 25 fi25 := ⟨Try.f25, Try.func25, rfl, rfl, rfl, by kernel_rfl, by decide⟩
theorem fok42 : FOK Try.prog cfg 42 fi42 := ⟨Try.f42, Try.func42, rfl, rfl, rfl, by kernel_rfl, by decide⟩
theorem fok43 : FOK Try.prog cfg 43 fi43 := ⟨Try.f43, Try.func43, rfl, rfl, rfl, by kernel_rfl, by decide⟩
theorem fok44 : FOK Try.prog cfg 44 fi44 := ⟨Try.f44, Try.func44, rfl, rfl, rfl, by kernel_rfl, by decide⟩
theorem fok45 : FOK Try.prog cfg 45 fi45 := ⟨Try.f45, Try.func45, rfl, rfl, rfl, by kernel_rfl, by decide⟩
theorem fok46 : FOK Try.prog cfg 46 fi46 := ⟨Try.f46, Try.func46, rfl, rfl, rfl, by kernel_rfl, by decide⟩
theorem fok47 : FOK Try.prog cfg 47 fi47 := ⟨Try.f47, Try.func47, rfl, rfl, rfl, by kernel_rfl, by decide⟩
theorem fok48 : FOK Try.prog cfg 48 fi48 := ⟨Try.f48, Try.func48, rfl, rfl, rfl, by kernel_rfl, by decide⟩
theorem fok49 : FOK Try.prog cfg 49 fi49 := ⟨Try.f49, Try.func49, rfl, rfl, rfl, by kernel_rfl, by decide⟩
theorem fok50 : FOK Try.prog cfg 50 fi50 := ⟨Try.f50, Try.func50, rfl, rfl, rfl, by kernel_rfl, by decide⟩
theorem fok51 : FOK Try.prog cfg 51 fi51 := ⟨Try.f51, Try.func51, rfl, rfl, rfl, by kernel_rfl, by decide⟩
theorem cok : COK BT0 Try.prog cfg where
  T := look_ok types_ok
  fn := lookF_ok (fun p hp => by
    simp only [fns, List.mem_cons, List.not_mem_nil, or_false] at hp
    rcases hp with rfl | rfl | rfl | rfl | rfl | rfl | rfl | rfl | rfl | rfl | rfl | rfl | rfl | rfl | rfl | rfl | rfl | rfl | rfl | rfl | rfl | rfl | rfl | rfl | rfl | rfl | rfl | rfl | rfl | rfl | rfl | rfl | rfl
    · exact fok3
    · exact fok4
    · exact fok5
    · exact fok6
    · exact fok7
    · exact fok8
    · exact fok9
    · exact fok10
    · exact fok11
    · exact fok12
    · exact fok13
    · exact fok14
    · exact fok15
    · exact fok16
    · exact fok17
    · exact fok18
    · exact fok19
    · exact fok20
    · exact fok21
    · exact fok22
    · exact fok23
    · exact fok24
    · exact fok25
    · exact fok42
    · exact fok43
    · exact fok44
    · exact fok45
    · exact fok46
    · exact fok47
    · exact fok48
    · exact fok49
    · exact fok50
    · exact fok51)
  given := fun f g h => by simp [cfg, givens] at h
  meth := fun t m f d h => by
    simp only [cfg, meths] at h
    split at h
    · rename_i e; obtain ⟨rfl, rfl⟩ := e; cases h; exact ⟨FOK.fn_ex fok9, fun v W u hd => methOK_ptr (el := 49) (by decide) (by kernel_rfl) v W u hd⟩
    split at h
    · rename_i e; obtain ⟨rfl, rfl⟩ := e; cases h; exact ⟨FOK.fn_ex fok17, fun v W u hd => methOK_ptr (el := 49) (by decide) (by kernel_rfl) v W u hd⟩
    split at h
    · rename_i e; obtain ⟨rfl, rfl⟩ := e; cases h; exact ⟨FOK.fn_ex fok11, fun v W u hd => methOK_ptr (el := 49) (by decide) (by kernel_rfl) v W u hd⟩
    split at h
    · rename_i e; obtain ⟨rfl, rfl⟩ := e; cases h; exact ⟨FOK.fn_ex fok12, fun v W u hd => methOK_ptr (el := 49) (by decide) (by kernel_rfl) v W u hd⟩
    split at h
    · rename_i e; obtain ⟨rfl, rfl⟩ := e; cases h; exact ⟨FOK.fn_ex fok10, fun v W u hd => methOK_ptr (el := 49) (by decide) (by kernel_rfl) v W u hd⟩
    split at h
    · rename_i e; obtain ⟨rfl, rfl⟩ := e; cases h; exact ⟨FOK.fn_ex fok42, fun v W u hd => methOK_deref (el := 47) (by decide) (by kernel_rfl) v W u hd⟩
    split at h
    · rename_i e; obtain ⟨rfl, rfl⟩ := e; cases h; exact ⟨FOK.fn_ex fok43, fun v W u hd => methOK_deref (el := 47) (by decide) (by kernel_rfl) v W u hd⟩
    split at h
    · rename_i e; obtain ⟨rfl, rfl⟩ := e; cases h; exact ⟨FOK.fn_ex fok51, fun v W u hd => methOK_ptr (el := 47) (by decide) (by kernel_rfl) v W u hd⟩
    split at h
    · rename_i e; obtain ⟨rfl, rfl⟩ := e; cases h; exact ⟨FOK.fn_ex fok44, fun v W u hd => methOK_ptr (el := 47) (by decide) (by kernel_rfl) v W u hd⟩
    split at h
    · rename_i e; obtain ⟨rfl, rfl⟩ := e; cases h; exact ⟨FOK.fn_ex fok45, fun v W u hd => methOK_deref (el := 47) (by decide) (by kernel_rfl) v W u hd⟩
    cases h
  mixed := by kernel_rfl
end Go.Proofs.Ytamdokgbenbndaa.X
