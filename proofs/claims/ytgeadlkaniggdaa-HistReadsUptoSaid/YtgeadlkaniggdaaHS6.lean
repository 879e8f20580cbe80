/- Layer 24: Order, Fits. -/
import Derived.Test.YtgeadlkaniggdaaHS5
set_option linter.unusedVariables false
set_option linter.unusedSimpArgs false
set_option maxRecDepth 100000
namespace Go.Proofs.Ytgeadlkaniggdaa.X
open Go Go.RowKit HM
variable {ν β ps pos' : Nm} {H : Heap} {Q : AVal → Heap → Prop} {L : List Asr} {k : Nat}
theorem seekTop {l : List Hop} {q m : Nm} (hl : l.length ≤ 12) (hS : Own β ps H (row q 4 [.agg [.lst (l.map Hop.enc), .int .u64 (mustN l : Int), .map m, .emp]] :: mpF m eK eI (fun _ => none) :: L)) (hle : le ps ν) (hβ : under β ν = true) (hp : before ν pos')
    (hq : ∀ H1 O' f', Own β pos' H1 (sl O' 1 (((ordO l).getD []).map eN) :: row q 4 [.agg [.lst (l.map Hop.enc), .int .u64 (mustN l : Int), .map m, O']] :: mpF m eK eI f' :: L) → Q (.bool (ordO l).isSome) H1) : CW cfg ν 19 [.ptr q 0 0, .agg [.int .u64 0, .int .i64 (-1)]] H Q := by
  refine seekW hl (fu l.length [] + 1) (O := .emp) [] (by omega) (by rw [fu_nil]; simpa using hl) (by simp) (dead_nil l) (Own.rot (A := [_]) (hS.addE (w := 1))) hle hβ hp ?_
  intro H1 O' f' _ h1
  rw [gof_nil] at h1 ⊢
  exact hq H1 O' f' (Own.tor (A := [_]) h1)
theorem order_c {l : List Hop} (hq : Q (.tup [.lst ((ordS l).1.map eN), .bool (ordS l).2]) H) : CW cfg ν 9 [.lst (l.map Hop.enc)] H Q := by
  refine CW_pure g9 F9 rfl ?_
  have hS0 : Own ν ν (fun _ => none) [] := Own.nil
  refine XW_sr ?_
  refine OW_as rfl rfl ?_
  refine OW_as rfl rfl ?_
  refine OW_nilE (e' := [_, _, _, _, _, _, _, _, _, _, _, _, _, _, _, _, _, _, _, _, _, _, _, _, _, _, _, _, _, _, _, _, _, _, _, _, _, _, _, _, _, _, _, _, _, _, _, _, _, _, _, _, _]) rfl ?_
  refine XW_seq ?_
  refine XW_sr ?_
  refine OW_mv rfl rfl ?_
  first
  | refine OW_lenL rfl rfl (by first | assumption | exact Ls.of | exact Ls.emp | exact Ls.nls) rfl rfl rfl (by first | exact List.length_map _ | rfl) ?_
  | refine OW_bi rfl rfl rfl ?_
  refine OW_bin rfl rfl rfl rfl rfl ?_
  refine OW_nilE (e' := [_, _, _, _, _, _, _, _, _, _, _, _, _, _, _, _, _, _, _, _, _, _, _, _, _, _, _, _, _, _, _, _, _, _, _, _, _, _, _, _, _, _, _, _, _, _, _, _, _, _, _, _, _]) rfl ?_
  refine XW_if rfl (fun h1 => ?_) (fun h1 => ?_)
  · try simp only [decide_eq_true_eq, decide_eq_false_iff_not, Bool.not_eq_true', Bool.not_eq_false', Bool.and_eq_true, Bool.or_eq_true, Bool.not_eq_true, Bool.not_eq_false, Decidable.not_not, bne_iff_ne, beq_iff_eq, List.length_append, List.length_cons, List.length_nil, List.length_drop, List.length_take] at h1
    refine XW_sr ?_
    refine OW_as rfl rfl ?_
    refine OW_as rfl rfl ?_
    refine OW_nilE (e' := [_, _, _, _, _, _, _, _, _, _, _, _, _, _, _, _, _, _, _, _, _, _, _, _, _, _, _, _, _, _, _, _, _, _, _, _, _, _, _, _, _, _, _, _, _, _, _, _, _, _, _, _, _]) rfl ?_
    refine XW_ret ?_
    refine then_ret ?_
    -- outcome 1
    refine ret_ret (res2 rfl (rv_tmp rfl) (rv_tmp rfl)) (frz2 (Q := Q) (by first | exact freeze_plain rfl | exact Ls.freeze (by assumption) | exact Ls.freeze Ls.of | exact Ls.freeze Ls.emp | exact Ls.freeze Ls.nls) (by first | exact freeze_plain rfl | exact Ls.freeze (by assumption) | exact Ls.freeze Ls.of | exact Ls.freeze Ls.emp | exact Ls.freeze Ls.nls) ?_)
    rw [show ordS l = ([], false) from if_pos (by omega)] at hq; exact hq
  · try simp only [decide_eq_true_eq, decide_eq_false_iff_not, Bool.not_eq_true', Bool.not_eq_false', Bool.and_eq_true, Bool.or_eq_true, Bool.not_eq_true, Bool.not_eq_false, Decidable.not_not, bne_iff_ne, beq_iff_eq, List.length_append, List.length_cons, List.length_nil, List.length_drop, List.length_take] at h1
    refine XW_skip ?_
    refine then_norm ?_
    refine XW_sr ?_
    refine OW_mv rfl rfl ?_
    refine OW_makeM eK eI hS0 (le_app (p := ν) (b := [1, 0, 1, 1])) (under_app [1, 0, 1, 1] under_me) rfl fun H1 hS1 => ?_
    replace hS1 : Own _ _ _ ([_]) := hS1
    refine OW_bd rfl rfl (v := .agg [_, _, _, _]) rfl ?_
    refine OW_env (e' := [_, _, _, _, _, _, _, _, _, _, _, _, _, _, _, _, _, _, _, _, _, _, _, _, _, _, _, _, _, _, _, _, _, _, _, _, _, _, _, _, _, _, _, _, _, _, _, _, _, _, _, _, _]) rfl ?_
    refine OW_boxR hS1 (le_lit (ν := ν) (a := [2, 0, 1, 1]) (b := [3, 0, 1, 1]) (by decide)) (under_app [3, 0, 1, 1] under_me) rfl rfl rfl ⟨rfl, rfl⟩ fun H2 hS2 => ?_
    replace hS2 : Own _ _ _ ([_, _]) := hS2
    refine OW_as rfl rfl ?_
    refine OW_nilE (e' := [_, _, _, _, _, _, _, _, _, _, _, _, _, _, _, _, _, _, _, _, _, _, _, _, _, _, _, _, _, _, _, _, _, _, _, _, _, _, _, _, _, _, _, _, _, _, _, _, _, _, _, _, _]) rfl ?_
    refine XW_seq ?_
    refine XW_sr ?_
    refine OW_mv rfl rfl ?_
    first
    | refine OW_lenL rfl rfl (by first | assumption | exact Ls.of | exact Ls.emp | exact Ls.nls) rfl rfl rfl (by first | exact List.length_map _ | rfl) ?_
    | refine OW_bi rfl rfl rfl ?_
    refine OW_mv rfl rfl ?_
    refine OW_nilE (e' := [_, _, _, _, _, _, _, _, _, _, _, _, _, _, _, _, _, _, _, _, _, _, _, _, _, _, _, _, _, _, _, _, _, _, _, _, _, _, _, _, _, _, _, _, _, _, _, _, _, _, _, _, _]) rfl ?_
    refine XW_block ?_
    refine XW_whileN (I := fun ν' mm ee H' => ∃ (i : Nat), mm = l.length - i ∧ under (1 :: 0 :: 1 :: 1 :: 1 :: ν) ν' = true ∧ Own ν ν' H' ([row (3 :: 0 :: 1 :: 1 :: ν) 4 [.agg [.lst (l.map Hop.enc), .int .u64 (mask (ends l i) : Int), .map (1 :: 0 :: 1 :: 1 :: ν), .emp]], mpF (1 :: 0 :: 1 :: 1 :: ν) eK eI (fun _ => none)]) ∧ (i ≤ l.length) ∧ ∃ g : Nat → AVal, ee = [g 0, g 1, g 2, g 3, .ptr (3 :: 0 :: 1 :: 1 :: ν) 0 0, g 5, g 6, g 7, g 8, g 9, g 10, g 11, g 12, g 13, .lst (l.map Hop.enc), .int .i64 l.length, .int .i64 i, g 17, g 18, g 19, g 20, g 21, g 22, g 23, g 24, g 25, g 26, g 27, g 28, g 29, g 30, g 31, g 32, g 33, g 34, g 35, g 36, g 37, g 38, g 39, g 40, g 41, g 42, g 43, g 44, g 45, g 46, g 47, g 48, g 49, g 50, g 51, g 52]) ?_ _ _ _ _ ⟨0, rfl, under_me, Own.cast (Own.mono (hS2) (le_lit (ν := ν) (a := [4, 0, 1, 1]) (b := [1, 0, 1, 1, 1]) (by decide))) (rfl), (by omega), env_g rfl⟩
    rintro ν1 mm ee H3 ⟨i, rfl, hU1, hS3, hi, g1, rfl⟩
    refine XW_sr ?_
    refine OW_bin rfl rfl rfl rfl rfl ?_
    refine OW_nilE (e' := [_, _, _, _, _, _, _, _, _, _, _, _, _, _, _, _, _, _, _, _, _, _, _, _, _, _, _, _, _, _, _, _, _, _, _, _, _, _, _, _, _, _, _, _, _, _, _, _, _, _, _, _, _]) rfl ?_
    refine XW_seq ?_
    refine XW_if rfl (fun h5 => ?_) (fun h5 => ?_)
    · try simp only [decide_eq_true_eq, decide_eq_false_iff_not, Bool.not_eq_true', Bool.not_eq_false', Bool.and_eq_true, Bool.or_eq_true, Bool.not_eq_true, Bool.not_eq_false, Decidable.not_not, bne_iff_ne, beq_iff_eq, List.length_append, List.length_cons, List.length_nil, List.length_drop, List.length_take] at h5
      refine XW_skip ?_
      refine then_norm ?_
      refine XW_seq ?_
      refine XW_block ?_
      refine XW_sr ?_
      have hme := mask_u64 (o := ends l i) (n := l.length) (by omega) (fun j hj => by have := ends_lt hj; omega)
      refine OW_mv rfl rfl ?_
      first
      | refine OW_iaL rfl rfl rfl Ls.of rfl rfl rfl (by first | rfl | exact (Int.toNat_of_nonneg (by omega)).symm) (by first | assumption | exact at_map (by first | assumption | omega) | exact at_lst (by omega) | rfl) rfl ?_
      | refine OW_iaL rfl rfl rfl (by assumption) rfl rfl rfl (by first | rfl | exact (Int.toNat_of_nonneg (by omega)).symm) (by first | assumption | exact at_map (by first | assumption | omega) | exact at_lst (by omega) | rfl) rfl ?_
      refine OW_loadE rfl rfl rfl (by first | exact part_whole rfl rfl rfl | rfl) ?_
      refine OW_env (e' := [_, _, _, _, _, _, _, _, _, _, _, _, _, _, _, _, _, _, _, _, _, _, _, _, _, _, _, _, _, _, _, _, _, _, _, _, _, _, _, _, _, _, _, _, _, _, _, _, _, _, _, _, _]) rfl ?_
      refine OW_allocR hS3 (le_app (p := ν1) (b := [3, 0, 0, 1, 1, 0])) (under_app [3, 0, 0, 1, 1, 0] (under_trans (under_app [1, 0, 1, 1, 1] under_me) hU1)) rfl rfl rfl rfl fun H4 hS4 => ?_
      replace hS4 : Own _ _ _ ([_, _, _]) := hS4
      refine OW_as rfl rfl ?_
      first
      | refine OW_storeR hS4 (k := 0) rfl (le_lit (ν := ν1) (a := [4, 0, 0, 1, 1, 0]) (b := [5, 0, 0, 1, 1, 0]) (by decide)) rfl rfl rfl rfl ⟨rfl, rfl, Nat.le_of_ble_eq_true rfl⟩ (set_whole rfl rfl) fun H5 hS5 => ?_
      | refine OW_storeR hS4 (k := 0) rfl (le_lit (ν := ν1) (a := [4, 0, 0, 1, 1, 0]) (b := [5, 0, 0, 1, 1, 0]) (by decide)) rfl rfl rfl rfl ⟨rfl, rfl, Nat.le_of_ble_eq_true rfl⟩ (u2 := .agg [_, _, _, _]) rfl fun H5 hS5 => ?_
      replace hS5 : Own _ _ _ ([_, _, _]) := hS5
      refine OW_nilE (e' := [_, _, _, _, _, _, _, _, _, _, _, _, _, _, _, _, _, _, _, _, _, _, _, _, _, _, _, _, _, _, _, _, _, _, _, _, _, _, _, _, _, _, _, _, _, _, _, _, _, _, _, _, _]) rfl ?_
      refine XW_sr ?_
      refine OW_fa rfl rfl rfl ?_
      refine OW_loadR hS5 (k := 0) rfl rfl rfl rfl rfl (by first | exact part_whole rfl rfl rfl | rfl) ?_
      refine OW_bin rfl rfl rfl rfl rfl ?_
      refine OW_nilE (e' := [_, _, _, _, _, _, _, _, _, _, _, _, _, _, _, _, _, _, _, _, _, _, _, _, _, _, _, _, _, _, _, _, _, _, _, _, _, _, _, _, _, _, _, _, _, _, _, _, _, _, _, _, _]) rfl ?_
      refine XW_if rfl (fun h7 => ?_) (fun h7 => ?_)
      · try simp only [decide_eq_true_eq, decide_eq_false_iff_not, Bool.not_eq_true', Bool.not_eq_false', Bool.and_eq_true, Bool.or_eq_true, Bool.not_eq_true, Bool.not_eq_false, Decidable.not_not, bne_iff_ne, beq_iff_eq, List.length_append, List.length_cons, List.length_nil, List.length_drop, List.length_take] at h7
        refine XW_region ?_
        refine OW_mv rfl rfl ?_
        first
        | refine OW_nc rfl rfl ?_
        | refine OW_nce rfl rfl ?_
        refine OW_fa rfl rfl rfl ?_
        refine OW_env (e' := [_, _, _, _, _, _, _, _, _, _, _, _, _, _, _, _, _, _, _, _, _, _, _, _, _, _, _, _, _, _, _, _, _, _, _, _, _, _, _, _, _, _, _, _, _, _, _, _, _, _, _, _, _]) rfl ?_
        refine OW_loadR hS5 (k := 1) rfl rfl rfl rfl rfl (by first | exact part_whole rfl rfl rfl | rfl) ?_
        refine OW_mv rfl rfl ?_
        first
        | refine OW_bin rfl rfl rfl rfl (shl1_u64 (by omega)) ?_
        | refine OW_bin rfl rfl rfl rfl rfl ?_
        refine OW_env (e' := [_, _, _, _, _, _, _, _, _, _, _, _, _, _, _, _, _, _, _, _, _, _, _, _, _, _, _, _, _, _, _, _, _, _, _, _, _, _, _, _, _, _, _, _, _, _, _, _, _, _, _, _, _]) rfl ?_
        first
        | refine OW_bin rfl rfl rfl rfl (or_u64n (by omega) (by have : 2 ^ i < 2 ^ 64 := Nat.pow_lt_pow_right (by decide) (by omega); omega)) ?_
        | refine OW_bin rfl rfl rfl rfl rfl ?_
        first
        | refine OW_nc rfl rfl ?_
        | refine OW_nce rfl rfl ?_
        refine OW_fa rfl rfl rfl ?_
        refine OW_env (e' := [_, _, _, _, _, _, _, _, _, _, _, _, _, _, _, _, _, _, _, _, _, _, _, _, _, _, _, _, _, _, _, _, _, _, _, _, _, _, _, _, _, _, _, _, _, _, _, _, _, _, _, _, _]) rfl ?_
        refine OW_storeR hS5 (k := 1) rfl (le_lit (ν := ν1) (a := [6, 0, 0, 1, 1, 0]) (b := [9, 1, 1, 0, 1, 1, 0]) (by decide)) rfl rfl rfl rfl ⟨rfl, rfl, Nat.le_of_ble_eq_true rfl⟩ (u2 := .agg [_, _, _, _]) rfl fun H6 hS6 => ?_
        replace hS6 : Own _ _ _ ([_, _, _]) := hS6
        refine OW_nilE (e' := [_, _, _, _, _, _, _, _, _, _, _, _, _, _, _, _, _, _, _, _, _, _, _, _, _, _, _, _, _, _, _, _, _, _, _, _, _, _, _, _, _, _, _, _, _, _, _, _, _, _, _, _, _]) rfl ?_
        refine block_norm ?_
        refine then_norm ?_
        refine XW_region ?_
        first
        | refine OW_bin rfl rfl rfl rfl (add_w64 (by first | omega | assumption | (simp only [ByteArray.size_append, ByteArray.size_extract, List.length_map, List.length_append, List.length_cons, List.length_nil, List.length_drop, List.length_take]; omega))) ?_
        | refine OW_bin rfl rfl rfl rfl rfl ?_
        refine OW_mv rfl rfl ?_
        refine OW_nilE (e' := [_, _, _, _, _, _, _, _, _, _, _, _, _, _, _, _, _, _, _, _, _, _, _, _, _, _, _, _, _, _, _, _, _, _, _, _, _, _, _, _, _, _, _, _, _, _, _, _, _, _, _, _, _]) rfl ?_
        have hSd1 : Own _ _ _ ([_, _]) := (Own.drop hS6 (k := 0) rfl)
        -- round 0.1
        refine ⟨_, ?_, i + 1, rfl, under_in hU1, Own.cast (Own.mono (hSd1) (le_lit (ν := ν1) (a := [10, 1, 1, 0, 1, 1, 0]) (b := [1]) (by decide))) (by rw [ends_succ, ended_eq (by omega), if_pos (by simpa using h7), mask_snoc]), ?_, env_g rfl⟩
        · first | omega | (simp; omega)
        · omega
      · try simp only [decide_eq_true_eq, decide_eq_false_iff_not, Bool.not_eq_true', Bool.not_eq_false', Bool.and_eq_true, Bool.or_eq_true, Bool.not_eq_true, Bool.not_eq_false, Decidable.not_not, bne_iff_ne, beq_iff_eq, List.length_append, List.length_cons, List.length_nil, List.length_drop, List.length_take] at h7
        refine XW_skip ?_
        refine block_norm ?_
        refine then_norm ?_
        refine XW_region ?_
        first
        | refine OW_bin rfl rfl rfl rfl (add_w64 (by first | omega | assumption | (simp only [ByteArray.size_append, ByteArray.size_extract, List.length_map, List.length_append, List.length_cons, List.length_nil, List.length_drop, List.length_take]; omega))) ?_
        | refine OW_bin rfl rfl rfl rfl rfl ?_
        refine OW_mv rfl rfl ?_
        refine OW_nilE (e' := [_, _, _, _, _, _, _, _, _, _, _, _, _, _, _, _, _, _, _, _, _, _, _, _, _, _, _, _, _, _, _, _, _, _, _, _, _, _, _, _, _, _, _, _, _, _, _, _, _, _, _, _, _]) rfl ?_
        have hSd2 : Own _ _ _ ([_, _]) := (Own.drop hS5 (k := 0) rfl)
        -- round 0.2
        refine ⟨_, ?_, i + 1, rfl, under_in hU1, Own.cast (Own.mono (hSd2) (le_lit (ν := ν1) (a := [6, 0, 0, 1, 1, 0]) (b := [1]) (by decide))) (by rw [ends_succ, ended_eq (by omega), if_neg (by simpa using h7)]), ?_, env_g rfl⟩
        · first | omega | (simp; omega)
        · omega
    · try simp only [decide_eq_true_eq, decide_eq_false_iff_not, Bool.not_eq_true', Bool.not_eq_false', Bool.and_eq_true, Bool.or_eq_true, Bool.not_eq_true, Bool.not_eq_false, Decidable.not_not, bne_iff_ne, beq_iff_eq, List.length_append, List.length_cons, List.length_nil, List.length_drop, List.length_take] at h5
      refine XW_exit ?_
      refine then_exit ?_
      refine block_exit ?_
      refine then_norm ?_
      refine XW_seq ?_
      refine XW_sr ?_
      obtain rfl : i = l.length := by omega
      refine OW_mv rfl rfl ?_
      refine OW_bd rfl rfl (v := .agg [_, _]) rfl ?_
      refine OW_fn rfl rfl (seekTop (l := l) (by omega) hS3 (le_bef (bef_under (a := []) hU1 (before_lit (ν := ν) (a := [1, 0, 1, 1, 1]) (b := [2, 0, 0, 1, 1, 1, 1]) (by decide)))) (under_app [2, 0, 0, 1, 1, 1, 1] under_me) (before_lit (ν := ν) (a := [2, 0, 0, 1, 1, 1, 1]) (b := [3, 0, 0, 1, 1, 1, 1]) (by decide)) fun H7 O1 f1 hS7 => ?_) 
      replace hS7 : Own _ _ _ ([_, _, _]) := hS7
      refine OW_env (e' := [_, _, _, _, _, _, _, _, _, _, _, _, _, _, _, _, _, _, _, _, _, _, _, _, _, _, _, _, _, _, _, _, _, _, _, _, _, _, _, _, _, _, _, _, _, _, _, _, _, _, _, _, _]) rfl ?_
      refine OW_un rfl rfl rfl ?_
      refine OW_nilE (e' := [_, _, _, _, _, _, _, _, _, _, _, _, _, _, _, _, _, _, _, _, _, _, _, _, _, _, _, _, _, _, _, _, _, _, _, _, _, _, _, _, _, _, _, _, _, _, _, _, _, _, _, _, _]) rfl ?_
      refine XW_if rfl (fun h10 => ?_) (fun h10 => ?_)
      · try simp only [decide_eq_true_eq, decide_eq_false_iff_not, Bool.not_eq_true', Bool.not_eq_false', Bool.and_eq_true, Bool.or_eq_true, Bool.not_eq_true, Bool.not_eq_false, Decidable.not_not, bne_iff_ne, beq_iff_eq, List.length_append, List.length_cons, List.length_nil, List.length_drop, List.length_take] at h10
        refine XW_sr ?_
        refine OW_as rfl rfl ?_
        refine OW_as rfl rfl ?_
        refine OW_nilE (e' := [_, _, _, _, _, _, _, _, _, _, _, _, _, _, _, _, _, _, _, _, _, _, _, _, _, _, _, _, _, _, _, _, _, _, _, _, _, _, _, _, _, _, _, _, _, _, _, _, _, _, _, _, _]) rfl ?_
        refine XW_ret ?_
        refine then_ret ?_
        -- outcome 2
        refine ret_ret (res2 rfl (rv_tmp rfl) (rv_tmp rfl)) (frz2 (Q := Q) (by first | exact freeze_plain rfl | exact Ls.freeze (by assumption) | exact Ls.freeze Ls.of | exact Ls.freeze Ls.emp | exact Ls.freeze Ls.nls) (by first | exact freeze_plain rfl | exact Ls.freeze (by assumption) | exact Ls.freeze Ls.of | exact Ls.freeze Ls.emp | exact Ls.freeze Ls.nls) ?_)
        have hn : ordO l = none := (by cases hh : ordO l with | none => rfl | some r => rw [hh] at h10; cases h10)
        rw [ordS_no (by omega) hn] at hq; exact hq
      · try simp only [decide_eq_true_eq, decide_eq_false_iff_not, Bool.not_eq_true', Bool.not_eq_false', Bool.and_eq_true, Bool.or_eq_true, Bool.not_eq_true, Bool.not_eq_false, Decidable.not_not, bne_iff_ne, beq_iff_eq, List.length_append, List.length_cons, List.length_nil, List.length_drop, List.length_take] at h10
        refine XW_skip ?_
        refine then_norm ?_
        refine XW_sr ?_
        refine OW_mv rfl rfl ?_
        first
        | refine OW_nc rfl rfl ?_
        | refine OW_nce rfl rfl ?_
        refine OW_fa rfl rfl rfl ?_
        refine OW_env (e' := [_, _, _, _, _, _, _, _, _, _, _, _, _, _, _, _, _, _, _, _, _, _, _, _, _, _, _, _, _, _, _, _, _, _, _, _, _, _, _, _, _, _, _, _, _, _, _, _, _, _, _, _, _]) rfl ?_
        refine OW_loadR hS7 (k := 1) rfl rfl rfl rfl rfl (by first | exact part_whole rfl rfl rfl | rfl) ?_
        refine OW_mv rfl rfl ?_
        first
        | refine OW_nc rfl rfl ?_
        | refine OW_nce rfl rfl ?_
        refine OW_env (e' := [_, _, _, _, _, _, _, _, _, _, _, _, _, _, _, _, _, _, _, _, _, _, _, _, _, _, _, _, _, _, _, _, _, _, _, _, _, _, _, _, _, _, _, _, _, _, _, _, _, _, _, _, _]) rfl ?_
        refine OW_fa rfl rfl rfl ?_
        refine OW_loadR hS7 (k := 1) rfl rfl rfl rfl rfl (by first | exact part_whole rfl rfl rfl | rfl) ?_
        refine OW_lenO hS7 (k := 0) rfl rfl rfl rfl rfl rfl (by first | exact List.length_map _ | exact len_app1 | exact len_drop | (simp only [List.length_append, List.length_map, List.length_singleton, List.length_cons, List.length_nil]; rfl) | rfl) ?_
        refine OW_env (e' := [_, _, _, _, _, _, _, _, _, _, _, _, _, _, _, _, _, _, _, _, _, _, _, _, _, _, _, _, _, _, _, _, _, _, _, _, _, _, _, _, _, _, _, _, _, _, _, _, _, _, _, _, _]) rfl ?_
        refine OW_mv rfl rfl ?_
        first
        | refine OW_nc rfl rfl ?_
        | refine OW_nce rfl rfl ?_
        refine OW_fa rfl rfl rfl ?_
        refine OW_env (e' := [_, _, _, _, _, _, _, _, _, _, _, _, _, _, _, _, _, _, _, _, _, _, _, _, _, _, _, _, _, _, _, _, _, _, _, _, _, _, _, _, _, _, _, _, _, _, _, _, _, _, _, _, _]) rfl ?_
        refine OW_loadR hS7 (k := 1) rfl rfl rfl rfl rfl (by first | exact part_whole rfl rfl rfl | rfl) ?_
        refine OW_fn rfl rfl (ones_c (mask_u64 (n := l.length) (by omega) (fun j hj => ends_lt hj)) ?_) 
        refine OW_bin rfl rfl rfl rfl rfl ?_
        refine OW_env (e' := [_, _, _, _, _, _, _, _, _, _, _, _, _, _, _, _, _, _, _, _, _, _, _, _, _, _, _, _, _, _, _, _, _, _, _, _, _, _, _, _, _, _, _, _, _, _, _, _, _, _, _, _, _]) rfl ?_
        refine OW_as rfl rfl ?_
        refine OW_as rfl rfl ?_
        refine OW_nilE (e' := [_, _, _, _, _, _, _, _, _, _, _, _, _, _, _, _, _, _, _, _, _, _, _, _, _, _, _, _, _, _, _, _, _, _, _, _, _, _, _, _, _, _, _, _, _, _, _, _, _, _, _, _, _]) rfl ?_
        refine XW_ret ?_
        -- outcome 3
        refine ret_ret (res2 rfl (rv_tmp rfl) (rv_tmp rfl)) (frz2 (Q := Q) (by first | exact hS7.frz (k := 0) rfl (by first | exact map_plain (fun _ => rfl) | (intro x hx; simp at hx; done)) | exact freeze_plain rfl | exact Ls.freeze (by assumption) | exact Ls.freeze Ls.of | exact Ls.freeze Ls.emp | exact Ls.freeze Ls.nls) (by first | exact freeze_plain rfl | exact Ls.freeze (by assumption) | exact Ls.freeze Ls.of | exact Ls.freeze Ls.emp | exact Ls.freeze Ls.nls) ?_)
        obtain ⟨r, hr⟩ := Option.isSome_iff_exists.1 h10
        have hpc := pc_le (ordO_some hr).2.1
        rw [ordS_of (by omega) hr] at hq; refine qcast hq ?_; rw [hr]; simp; omega
theorem order_e {l : List Hop} {a : List Nat} {b : Bool} (he : ordS l = (a, b)) (hq : Q (.tup [.lst (a.map eN), .bool b]) H) : CW cfg ν 9 [.lst (l.map Hop.enc)] H Q := order_c (by rw [he]; exact hq)
theorem fits_c {l : List Hop} {v : AVal} (hv : freeze [] H 8 v = .lst (l.map Hop.enc)) (hq : Q (.bool (ordS l).2) H) : CW cfg ν 14 [v] H Q := by
  refine CW_borrowL (args' := [.lst (l.map Hop.enc)]) g14 F14 rfl (fz_cons (by first | assumption | exact freeze_plain rfl | exact Ls.freeze (by assumption) | rfl) fz_nil) ?_
  refine XW_sr ?_
  refine OW_as rfl rfl ?_
  refine OW_nilE (e' := [_, _, _, _, _, _, _, _, _, _, _]) rfl ?_
  refine XW_sr ?_
  refine OW_mv rfl rfl ?_
  refine OW_fn rfl rfl (order_c ?_) 
  refine OW_mv rfl rfl ?_
  refine OW_env (e' := [_, _, _, _, _, _, _, _, _, _, _]) rfl ?_
  refine OW_ex rfl rfl rfl ?_
  refine OW_ex rfl rfl rfl ?_
  refine OW_as rfl rfl ?_
  refine OW_env (e' := [_, _, _, _, _, _, _, _, _, _, _]) rfl ?_
  refine OW_as rfl rfl ?_
  refine OW_nilE (e' := [_, _, _, _, _, _, _, _, _, _, _]) rfl ?_
  refine XW_sr ?_
  refine OW_mv rfl rfl ?_
  refine OW_as rfl rfl ?_
  refine OW_nilE (e' := [_, _, _, _, _, _, _, _, _, _, _]) rfl ?_
  refine XW_ret ?_
  -- outcome 1
  refine ret_ret (res1 rfl (rv_tmp rfl)) ⟨rfl, ?_⟩
  exact hq
/-! ### the reference -/
theorem has_c {v : AVal} {o : List Nat} {n : Nat} (hv : freeze [] H 8 v = .lst (o.map eN)) (hn : o.length ≤ 4294967296) (hq : Q (.bool (decide (n ∈ o))) H) : CW cfg ν 15 [v, .int .i64 (n : Int)] H Q := by
  refine CW_borrowL (args' := [.lst (o.map eN), .int .i64 (n : Int)]) g15 F15 rfl (fz_cons (by first | assumption | exact freeze_plain rfl | exact Ls.freeze (by assumption) | rfl) (fz_cons (by first | assumption | exact freeze_plain rfl | exact Ls.freeze (by assumption) | rfl) fz_nil)) ?_
  refine XW_sr ?_
  refine OW_as rfl rfl ?_
  refine OW_nilE (e' := [_, _, _, _, _, _, _, _, _, _, _, _, _, _, _, _, _, _]) rfl ?_
  refine XW_seq ?_
  refine XW_sr ?_
  refine OW_as rfl rfl ?_
  refine OW_nilE (e' := [_, _, _, _, _, _, _, _, _, _, _, _, _, _, _, _, _, _]) rfl ?_
  refine XW_block ?_
  refine XW_whileN (I := fun ν' mm ee H' => ∃ (i : Nat), mm = o.length - i ∧ under (1 :: 0 :: 1 :: ν) ν' = true ∧ (i ≤ o.length ∧ n ∉ o.take i) ∧ ∃ g : Nat → AVal, ee = [.lst (o.map eN), .int .i64 n, g 2, g 3, g 4, .int .i64 i, g 6, g 7, g 8, g 9, g 10, g 11, g 12, g 13, g 14, g 15, g 16, g 17]) ?_ _ _ _ _ ⟨0, rfl, under_me, (⟨by omega, by simp⟩), env_g rfl⟩
  rintro ν1 mm ee H1 ⟨i, rfl, hU1, ⟨hi, hI⟩, g1, rfl⟩
  refine XW_seq ?_
  refine XW_sr ?_
  refine OW_mv rfl rfl ?_
  refine OW_mv rfl rfl ?_
  first
  | refine OW_lenL rfl rfl (by first | assumption | exact Ls.of | exact Ls.emp | exact Ls.nls) rfl rfl rfl (by first | exact List.length_map _ | rfl) ?_
  | refine OW_bi rfl rfl rfl ?_
  refine OW_env (e' := [_, _, _, _, _, _, _, _, _, _, _, _, _, _, _, _, _, _]) rfl ?_
  refine OW_bin rfl rfl rfl rfl rfl ?_
  refine OW_nilE (e' := [_, _, _, _, _, _, _, _, _, _, _, _, _, _, _, _, _, _]) rfl ?_
  refine XW_if rfl (fun h2 => ?_) (fun h2 => ?_)
  · try simp only [decide_eq_true_eq, decide_eq_false_iff_not, Bool.not_eq_true', Bool.not_eq_false', Bool.and_eq_true, Bool.or_eq_true, Bool.not_eq_true, Bool.not_eq_false, Decidable.not_not, bne_iff_ne, beq_iff_eq, List.length_append, List.length_cons, List.length_nil, List.length_drop, List.length_take] at h2
    refine XW_skip ?_
    refine then_norm ?_
    refine XW_seq ?_
    refine XW_block ?_
    refine XW_sr ?_
    refine OW_mv rfl rfl ?_
    refine OW_mv rfl rfl ?_
    first
    | refine OW_iaL rfl rfl rfl Ls.of rfl rfl rfl (by first | rfl | exact (Int.toNat_of_nonneg (by omega)).symm) (by first | assumption | exact at_map (by first | assumption | omega) | exact at_lst (by omega) | rfl) rfl ?_
    | refine OW_iaL rfl rfl rfl (by assumption) rfl rfl rfl (by first | rfl | exact (Int.toNat_of_nonneg (by omega)).symm) (by first | assumption | exact at_map (by first | assumption | omega) | exact at_lst (by omega) | rfl) rfl ?_
    refine OW_env (e' := [_, _, _, _, _, _, _, _, _, _, _, _, _, _, _, _, _, _]) rfl ?_
    refine OW_loadE rfl rfl rfl (by first | exact part_whole rfl rfl rfl | rfl) ?_
    refine OW_mv rfl rfl ?_
    refine OW_bin rfl rfl rfl rfl rfl ?_
    refine OW_nilE (e' := [_, _, _, _, _, _, _, _, _, _, _, _, _, _, _, _, _, _]) rfl ?_
    refine XW_if rfl (fun h4 => ?_) (fun h4 => ?_)
    · try simp only [decide_eq_true_eq, decide_eq_false_iff_not, Bool.not_eq_true', Bool.not_eq_false', Bool.and_eq_true, Bool.or_eq_true, Bool.not_eq_true, Bool.not_eq_false, Decidable.not_not, bne_iff_ne, beq_iff_eq, List.length_append, List.length_cons, List.length_nil, List.length_drop, List.length_take] at h4
      refine XW_sr ?_
      refine OW_as rfl rfl ?_
      refine OW_nilE (e' := [_, _, _, _, _, _, _, _, _, _, _, _, _, _, _, _, _, _]) rfl ?_
      refine XW_ret ?_
      refine block_ret ?_
      refine then_ret ?_
      refine block_ret ?_
      refine then_ret ?_
      -- outcome 1
      refine ret_ret (res1 rfl (rv_tmp rfl)) ⟨rfl, ?_⟩
      first | (rw [show decide (n ∈ o) = true from decide_eq_true (by rw [show n = o[i] by omega]; exact List.getElem_mem _)] at hq; exact hq) | (rw [List.take_of_length_le (by omega)] at hI; rw [decide_eq_false hI] at hq; exact hq)
    · try simp only [decide_eq_true_eq, decide_eq_false_iff_not, Bool.not_eq_true', Bool.not_eq_false', Bool.and_eq_true, Bool.or_eq_true, Bool.not_eq_true, Bool.not_eq_false, Decidable.not_not, bne_iff_ne, beq_iff_eq, List.length_append, List.length_cons, List.length_nil, List.length_drop, List.length_take] at h4
      refine XW_skip ?_
      refine block_norm ?_
      refine then_norm ?_
      refine XW_region ?_
      refine OW_mv rfl rfl ?_
      first
      | refine OW_bin rfl rfl rfl rfl (add_w64 (by first | omega | assumption | (simp only [ByteArray.size_append, ByteArray.size_extract, List.length_map, List.length_append, List.length_cons, List.length_nil, List.length_drop, List.length_take]; omega))) ?_
      | refine OW_bin rfl rfl rfl rfl rfl ?_
      refine OW_as rfl rfl ?_
      refine OW_nilE (e' := [_, _, _, _, _, _, _, _, _, _, _, _, _, _, _, _, _, _]) rfl ?_
      -- round 0.1
      refine ⟨_, ?_, i + 1, rfl, under_in hU1, ?_, env_g rfl⟩
      · first | omega | (simp; omega)
      · exact ⟨by omega, by rw [List.take_succ_eq_append_getElem (by omega)]; intro hm; rcases List.mem_append.1 hm with h | h; (exact hI h); (rw [List.mem_singleton] at h; omega)⟩
  · try simp only [decide_eq_true_eq, decide_eq_false_iff_not, Bool.not_eq_true', Bool.not_eq_false', Bool.and_eq_true, Bool.or_eq_true, Bool.not_eq_true, Bool.not_eq_false, Decidable.not_not, bne_iff_ne, beq_iff_eq, List.length_append, List.length_cons, List.length_nil, List.length_drop, List.length_take] at h2
    refine XW_exit ?_
    refine then_exit ?_
    refine block_exit ?_
    refine then_norm ?_
    refine XW_sr ?_
    refine OW_as rfl rfl ?_
    refine OW_nilE (e' := [_, _, _, _, _, _, _, _, _, _, _, _, _, _, _, _, _, _]) rfl ?_
    refine XW_ret ?_
    -- outcome 2
    refine ret_ret (res1 rfl (rv_tmp rfl)) ⟨rfl, ?_⟩
    first | (rw [show decide (n ∈ o) = true from decide_eq_true (by rw [show n = o[i] by omega]; exact List.getElem_mem _)] at hq; exact hq) | (rw [List.take_of_length_le (by omega)] at hI; rw [decide_eq_false hI] at hq; exact hq)
theorem all_c {l : List Hop} {v : AVal} {o : List Nat} (hv : freeze [] H 8 v = .lst (o.map eN)) (hn : o.length ≤ 4294967296) (hl : l.length ≤ 4294967296) (hq : Q (.bool (cpl l o)) H) : CW cfg ν 16 [.lst (l.map Hop.enc), v] H Q := by
  refine CW_borrowL (args' := [.lst (l.map Hop.enc), .lst (o.map eN)]) g16 F16 rfl (fz_cons (by first | assumption | exact freeze_plain rfl | exact Ls.freeze (by assumption) | rfl) (fz_cons (by first | assumption | exact freeze_plain rfl | exact Ls.freeze (by assumption) | rfl) fz_nil)) ?_
  refine XW_sr ?_
  refine OW_as rfl rfl ?_
  refine OW_nilE (e' := [_, _, _, _, _, _, _, _, _, _, _, _, _, _, _, _, _, _, _, _, _, _, _, _]) rfl ?_
  refine XW_seq ?_
  refine XW_sr ?_
  refine OW_as rfl rfl ?_
  refine OW_nilE (e' := [_, _, _, _, _, _, _, _, _, _, _, _, _, _, _, _, _, _, _, _, _, _, _, _]) rfl ?_
  refine XW_block ?_
  refine XW_whileN (I := fun ν' mm ee H' => ∃ (i : Nat), mm = l.length - i ∧ under (1 :: 0 :: 1 :: ν) ν' = true ∧ (i ≤ l.length ∧ ∀ j, j < i → ended l j = true → j ∈ o) ∧ ∃ g : Nat → AVal, ee = [.lst (l.map Hop.enc), .lst (o.map eN), g 2, g 3, g 4, .int .i64 i, g 6, g 7, g 8, g 9, g 10, g 11, g 12, g 13, g 14, g 15, g 16, g 17, g 18, g 19, g 20, g 21, g 22, g 23]) ?_ _ _ _ _ ⟨0, rfl, under_me, (⟨by omega, fun j hj => by omega⟩), env_g rfl⟩
  rintro ν1 mm ee H1 ⟨i, rfl, hU1, ⟨hi, hI⟩, g1, rfl⟩
  refine XW_seq ?_
  refine XW_sr ?_
  refine OW_mv rfl rfl ?_
  refine OW_mv rfl rfl ?_
  first
  | refine OW_lenL rfl rfl (by first | assumption | exact Ls.of | exact Ls.emp | exact Ls.nls) rfl rfl rfl (by first | exact List.length_map _ | rfl) ?_
  | refine OW_bi rfl rfl rfl ?_
  refine OW_env (e' := [_, _, _, _, _, _, _, _, _, _, _, _, _, _, _, _, _, _, _, _, _, _, _, _]) rfl ?_
  refine OW_bin rfl rfl rfl rfl rfl ?_
  refine OW_nilE (e' := [_, _, _, _, _, _, _, _, _, _, _, _, _, _, _, _, _, _, _, _, _, _, _, _]) rfl ?_
  refine XW_if rfl (fun h2 => ?_) (fun h2 => ?_)
  · try simp only [decide_eq_true_eq, decide_eq_false_iff_not, Bool.not_eq_true', Bool.not_eq_false', Bool.and_eq_true, Bool.or_eq_true, Bool.not_eq_true, Bool.not_eq_false, Decidable.not_not, bne_iff_ne, beq_iff_eq, List.length_append, List.length_cons, List.length_nil, List.length_drop, List.length_take] at h2
    refine XW_skip ?_
    refine then_norm ?_
    refine XW_seq ?_
    refine XW_block ?_
    refine XW_sr ?_
    refine OW_mv rfl rfl ?_
    refine OW_mv rfl rfl ?_
    first
    | refine OW_iaL rfl rfl rfl Ls.of rfl rfl rfl (by first | rfl | exact (Int.toNat_of_nonneg (by omega)).symm) (by first | assumption | exact at_map (by first | assumption | omega) | exact at_lst (by omega) | rfl) rfl ?_
    | refine OW_iaL rfl rfl rfl (by assumption) rfl rfl rfl (by first | rfl | exact (Int.toNat_of_nonneg (by omega)).symm) (by first | assumption | exact at_map (by first | assumption | omega) | exact at_lst (by omega) | rfl) rfl ?_
    refine OW_env (e' := [_, _, _, _, _, _, _, _, _, _, _, _, _, _, _, _, _, _, _, _, _, _, _, _]) rfl ?_
    refine OW_fa rfl rfl rfl ?_
    refine OW_loadE rfl rfl rfl (by first | exact part_whole rfl rfl rfl | rfl) ?_
    refine OW_bin rfl rfl rfl rfl rfl ?_
    refine OW_env (e' := [_, _, _, _, _, _, _, _, _, _, _, _, _, _, _, _, _, _, _, _, _, _, _, _]) rfl ?_
    refine OW_mv rfl rfl ?_
    refine OW_split (tt := 18) rfl (fun g4_7 => ?_) (fun g4_7 => ?_)
    · try simp only [decide_eq_true_eq, decide_eq_false_iff_not, Bool.not_eq_true', Bool.not_eq_false', Bool.and_eq_true, Bool.or_eq_true, Bool.not_eq_true, Bool.not_eq_false, Decidable.not_not, bne_iff_ne, beq_iff_eq, List.length_append, List.length_cons, List.length_nil, List.length_drop, List.length_take] at g4_7
      refine OW_mv rfl rfl ?_
      refine OW_env (e' := [_, _, _, _, _, _, _, _, _, _, _, _, _, _, _, _, _, _, _, _, _, _, _, _]) rfl ?_
      refine OW_mv rfl rfl ?_
      refine OW_fn rfl rfl (has_c (Ls.freeze Ls.of) hn ?_) 
      refine OW_un rfl rfl rfl ?_
      refine OW_env (e' := [_, _, _, _, _, _, _, _, _, _, _, _, _, _, _, _, _, _, _, _, _, _, _, _]) rfl ?_
      refine OW_pick rfl rfl rfl ?_
      refine OW_nilE (e' := [_, _, _, _, _, _, _, _, _, _, _, _, _, _, _, _, _, _, _, _, _, _, _, _]) rfl ?_
      refine XW_if rfl (fun h4 => ?_) (fun h4 => ?_)
      · try simp only [decide_eq_true_eq, decide_eq_false_iff_not, Bool.not_eq_true', Bool.not_eq_false', Bool.and_eq_true, Bool.or_eq_true, Bool.not_eq_true, Bool.not_eq_false, Decidable.not_not, bne_iff_ne, beq_iff_eq, List.length_append, List.length_cons, List.length_nil, List.length_drop, List.length_take] at h4
        refine XW_sr ?_
        refine OW_as rfl rfl ?_
        refine OW_nilE (e' := [_, _, _, _, _, _, _, _, _, _, _, _, _, _, _, _, _, _, _, _, _, _, _, _]) rfl ?_
        refine XW_ret ?_
        refine block_ret ?_
        refine then_ret ?_
        refine block_ret ?_
        refine then_ret ?_
        -- outcome 1
        refine ret_ret (res1 rfl (rv_tmp rfl)) ⟨rfl, ?_⟩
        first | (rw [show cpl l o = true from cpl_iff.2 (fun j hj => hI j (by have := ended_lt hj; omega) hj)] at hq; exact hq) | (rw [show cpl l o = false from by cases hc : cpl l o with | false => rfl | true => exact absurd (cpl_iff.1 hc i (by rw [ended_eq (by omega)]; exact decide_eq_true (by omega))) (by assumption)] at hq; exact hq)
      · try simp only [decide_eq_true_eq, decide_eq_false_iff_not, Bool.not_eq_true', Bool.not_eq_false', Bool.and_eq_true, Bool.or_eq_true, Bool.not_eq_true, Bool.not_eq_false, Decidable.not_not, bne_iff_ne, beq_iff_eq, List.length_append, List.length_cons, List.length_nil, List.length_drop, List.length_take] at h4
        refine XW_skip ?_
        refine block_norm ?_
        refine then_norm ?_
        refine XW_region ?_
        refine OW_mv rfl rfl ?_
        first
        | refine OW_bin rfl rfl rfl rfl (add_w64 (by first | omega | assumption | (simp only [ByteArray.size_append, ByteArray.size_extract, List.length_map, List.length_append, List.length_cons, List.length_nil, List.length_drop, List.length_take]; omega))) ?_
        | refine OW_bin rfl rfl rfl rfl rfl ?_
        refine OW_as rfl rfl ?_
        refine OW_nilE (e' := [_, _, _, _, _, _, _, _, _, _, _, _, _, _, _, _, _, _, _, _, _, _, _, _]) rfl ?_
        -- round 0.1
        refine ⟨_, ?_, i + 1, rfl, under_in hU1, ?_, env_g rfl⟩
        · first | omega | (simp; omega)
        · exact ⟨by omega, fun j hj he => by by_cases e : j = i; (subst e; first | assumption | (exfalso; rw [ended_eq (by omega)] at he; have := of_decide_eq_true he; omega)); exact hI j (by omega) he⟩
    · try simp only [decide_eq_true_eq, decide_eq_false_iff_not, Bool.not_eq_true', Bool.not_eq_false', Bool.and_eq_true, Bool.or_eq_true, Bool.not_eq_true, Bool.not_eq_false, Decidable.not_not, bne_iff_ne, beq_iff_eq, List.length_append, List.length_cons, List.length_nil, List.length_drop, List.length_take] at g4_7
      refine OW_no rfl ?_
      refine OW_env (e' := [_, _, _, _, _, _, _, _, _, _, _, _, _, _, _, _, _, _, _, _, _, _, _, _]) rfl ?_
      refine OW_no rfl ?_
      refine OW_no rfl ?_
      refine OW_no rfl ?_
      refine OW_env (e' := [_, _, _, _, _, _, _, _, _, _, _, _, _, _, _, _, _, _, _, _, _, _, _, _]) rfl ?_
      refine OW_pick rfl rfl rfl ?_
      refine OW_nilE (e' := [_, _, _, _, _, _, _, _, _, _, _, _, _, _, _, _, _, _, _, _, _, _, _, _]) rfl ?_
      refine XW_no rfl rfl ?_
      refine XW_skip ?_
      refine block_norm ?_
      refine then_norm ?_
      refine XW_region ?_
      refine OW_mv rfl rfl ?_
      first
      | refine OW_bin rfl rfl rfl rfl (add_w64 (by first | omega | assumption | (simp only [ByteArray.size_append, ByteArray.size_extract, List.length_map, List.length_append, List.length_cons, List.length_nil, List.length_drop, List.length_take]; omega))) ?_
      | refine OW_bin rfl rfl rfl rfl rfl ?_
      refine OW_as rfl rfl ?_
      refine OW_nilE (e' := [_, _, _, _, _, _, _, _, _, _, _, _, _, _, _, _, _, _, _, _, _, _, _, _]) rfl ?_
      -- round 0.2
      refine ⟨_, ?_, i + 1, rfl, under_in hU1, ?_, env_g rfl⟩
      · first | omega | (simp; omega)
      · exact ⟨by omega, fun j hj he => by by_cases e : j = i; (subst e; first | assumption | (exfalso; rw [ended_eq (by omega)] at he; have := of_decide_eq_true he; omega)); exact hI j (by omega) he⟩
  · try simp only [decide_eq_true_eq, decide_eq_false_iff_not, Bool.not_eq_true', Bool.not_eq_false', Bool.and_eq_true, Bool.or_eq_true, Bool.not_eq_true, Bool.not_eq_false, Decidable.not_not, bne_iff_ne, beq_iff_eq, List.length_append, List.length_cons, List.length_nil, List.length_drop, List.length_take] at h2
    refine XW_exit ?_
    refine then_exit ?_
    refine block_exit ?_
    refine then_norm ?_
    refine XW_sr ?_
    refine OW_as rfl rfl ?_
    refine OW_nilE (e' := [_, _, _, _, _, _, _, _, _, _, _, _, _, _, _, _, _, _, _, _, _, _, _, _]) rfl ?_
    refine XW_ret ?_
    -- outcome 2
    refine ret_ret (res1 rfl (rv_tmp rfl)) ⟨rfl, ?_⟩
    first | (rw [show cpl l o = true from cpl_iff.2 (fun j hj => hI j (by have := ended_lt hj; omega) hj)] at hq; exact hq) | (rw [show cpl l o = false from by cases hc : cpl l o with | false => rfl | true => exact absurd (cpl_iff.1 hc i (by rw [ended_eq (by omega)]; exact decide_eq_true (by omega))) (by assumption)] at hq; exact hq)
end Go.Proofs.Ytgeadlkaniggdaa.X
