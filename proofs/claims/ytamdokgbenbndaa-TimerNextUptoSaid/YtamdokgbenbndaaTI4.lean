/- Layer 20: container/heap: down. -/
import Derived.Test.YtamdokgbenbndaaTI3
set_option linter.unusedVariables false
set_option linter.unusedSimpArgs false
set_option maxRecDepth 100000
namespace Go.Proofs.Ytamdokgbenbndaa.X
open Go Go.RowKit
variable {ν β ps pos' : Nm} {H : Heap} {Q : AVal → Heap → Prop} {L : List Asr} {k : Nat}
def kid (h : List It) (n i : Nat) : Nat := if 2 * i + 2 < n ∧ lessA h (2 * i + 2) (2 * i + 1) = true then 2 * i + 2 else 2 * i + 1
theorem kid_gt (h : List It) (n i : Nat) : i < kid h n i := by unfold kid; split <;> omega
theorem kid_lt {h : List It} {n i : Nat} (hh : 2 * i + 1 < n) : kid h n i < n := by unfold kid; split <;> omega
def downF (h : List It) (i n : Nat) : List It := if hi : 2 * i + 1 < n then (if lessA h (kid h n i) i then downF (swp h i (kid h n i)) (kid h n i) n else h) else h
termination_by n - i
decreasing_by
  have := kid_gt h n i
  omega
theorem downF_stop {h : List It} {i n : Nat} (hh : ¬ 2 * i + 1 < n ∨ lessA h (kid h n i) i = false) : downF h i n = h := by
  rw [downF]
  split
  · rename_i h0
    rw [hh.resolve_left (fun h => h h0)]; rfl
  · rfl
theorem downF_go {h : List It} {i n : Nat} (h0 : 2 * i + 1 < n) (hh : lessA h (kid h n i) i = true) : downF h i n = downF (swp h i (kid h n i)) (kid h n i) n := by
  rw [downF, dif_pos h0, if_pos hh]
theorem down_c {O : AVal} {n : AVal} {q : Nm} {h0 : List It} {i0 m : Nat} (hS : Own β ps H (row q 2 [.agg [O, n]] :: sl O 3 (h0.map It.enc) :: L)) (hle : le ps ν) (hβ : under β ν = true) (hp : before ν pos') (hn : h0.length ≤ 4294967000) (hi0 : i0 ≤ m) (hm : m ≤ h0.length)
    (hq : ∀ H1 b, Own β pos' H1 (row q 2 [.agg [O, n]] :: sl O 3 ((downF h0 i0 m).map It.enc) :: L) → Q (.bool b) H1) : CW cfg ν 24 [.ifc 51 (.ptr q 0 0), .int .i64 i0, .int .i64 m] H Q := by
  refine CW_keep g24 F24 rfl ?_
  replace hS := Own.mono hS hle
  refine XW_sr ?_
  refine OW_as rfl rfl ?_
  refine OW_nilE (e' := [_, _, _, _, _, _, _, _, _, _, _, _, _, _, _, _, _, _, _, _, _, _, _, _, _, _, _, _, _, _, _, _, _, _, _, _, _, _, _, _, _, _, _, _, _, _, _, _]) rfl ?_
  refine XW_sr ?_
  refine OW_mv rfl rfl ?_
  refine OW_as rfl rfl ?_
  refine OW_nilE (e' := [_, _, _, _, _, _, _, _, _, _, _, _, _, _, _, _, _, _, _, _, _, _, _, _, _, _, _, _, _, _, _, _, _, _, _, _, _, _, _, _, _, _, _, _, _, _, _, _]) rfl ?_
  refine XW_seq ?_
  refine XW_block ?_
  refine XW_whileN (I := fun ν' mm ee H' => ∃ (h : List It) (i : Nat), mm = m - i ∧ under (0 :: 1 :: 1 :: ν) ν' = true ∧ Own β ν' H' (row q 2 [.agg [O, n]] :: sl O 3 (h.map It.enc) :: L) ∧ (h.length = h0.length ∧ i ≤ m ∧ downF h0 i0 m = downF h i m) ∧ ∃ g : Nat → AVal, ee = [.ifc 51 (.ptr q 0 0), .int .i64 i0, .int .i64 m, g 3, g 4, g 5, g 6, .int .i64 i, g 8, g 9, g 10, g 11, g 12, g 13, g 14, g 15, g 16, g 17, g 18, g 19, g 20, g 21, g 22, g 23, g 24, g 25, g 26, g 27, g 28, g 29, g 30, g 31, g 32, g 33, g 34, g 35, g 36, g 37, g 38, g 39, g 40, g 41, g 42, g 43, g 44, g 45, g 46, g 47]) ?_ _ _ _ _ ⟨h0, i0, rfl, under_me, Own.cast (Own.mono (hS) (le_app (p := ν) (b := [0, 1, 1]))) (rfl), (⟨rfl, hi0, rfl⟩), env_g rfl⟩
  rintro ν1 mm ee H1 ⟨h, i, rfl, hU1, hS1, ⟨hl, hi, hu⟩, g1, rfl⟩
  refine XW_block ?_
  refine XW_sr ?_
  refine OW_mv rfl rfl ?_
  first
  | refine OW_bin rfl rfl rfl rfl (mul_w64 (by first | omega | assumption | (simp only [ByteArray.size_append, ByteArray.size_extract, List.length_map, List.length_append, List.length_cons, List.length_nil, List.length_drop, List.length_take]; omega))) ?_
  | refine OW_bin rfl rfl rfl rfl rfl ?_
  first
  | refine OW_bin rfl rfl rfl rfl (add_w64 (by first | omega | assumption | (simp only [ByteArray.size_append, ByteArray.size_extract, List.length_map, List.length_append, List.length_cons, List.length_nil, List.length_drop, List.length_take]; omega))) ?_
  | refine OW_bin rfl rfl rfl rfl rfl ?_
  refine OW_env (e' := [_, _, _, _, _, _, _, _, _, _, _, _, _, _, _, _, _, _, _, _, _, _, _, _, _, _, _, _, _, _, _, _, _, _, _, _, _, _, _, _, _, _, _, _, _, _, _, _]) rfl ?_
  refine OW_as rfl rfl ?_
  refine OW_nilE (e' := [_, _, _, _, _, _, _, _, _, _, _, _, _, _, _, _, _, _, _, _, _, _, _, _, _, _, _, _, _, _, _, _, _, _, _, _, _, _, _, _, _, _, _, _, _, _, _, _]) rfl ?_
  refine XW_seq ?_
  refine XW_sr ?_
  refine OW_mv rfl rfl ?_
  refine OW_mv rfl rfl ?_
  refine OW_bin rfl rfl rfl rfl rfl ?_
  refine OW_env (e' := [_, _, _, _, _, _, _, _, _, _, _, _, _, _, _, _, _, _, _, _, _, _, _, _, _, _, _, _, _, _, _, _, _, _, _, _, _, _, _, _, _, _, _, _, _, _, _, _]) rfl ?_
  refine OW_mv rfl rfl ?_
  refine OW_split (tt := 18) rfl (fun g3_4 => ?_) (fun g3_4 => ?_)
  · try simp only [decide_eq_true_eq, decide_eq_false_iff_not, Bool.not_eq_true', Bool.not_eq_false', Bool.and_eq_true, Bool.or_eq_true, Bool.not_eq_true, Bool.not_eq_false, Decidable.not_not, bne_iff_ne, beq_iff_eq, List.length_append, List.length_cons, List.length_nil, List.length_drop, List.length_take] at g3_4
    refine OW_no rfl ?_
    refine OW_env (e' := [_, _, _, _, _, _, _, _, _, _, _, _, _, _, _, _, _, _, _, _, _, _, _, _, _, _, _, _, _, _, _, _, _, _, _, _, _, _, _, _, _, _, _, _, _, _, _, _]) rfl ?_
    refine OW_no rfl ?_
    refine OW_pick rfl rfl rfl ?_
    refine OW_nilE (e' := [_, _, _, _, _, _, _, _, _, _, _, _, _, _, _, _, _, _, _, _, _, _, _, _, _, _, _, _, _, _, _, _, _, _, _, _, _, _, _, _, _, _, _, _, _, _, _, _]) rfl ?_
    refine XW_yes rfl rfl ?_
    refine XW_exit ?_
    refine then_exit ?_
    refine block_exit_ne rfl ?_
    refine block_exit ?_
    refine then_norm ?_
    refine XW_sr ?_
    refine OW_mv rfl rfl ?_
    refine OW_mv rfl rfl ?_
    refine OW_bin rfl rfl rfl rfl rfl ?_
    refine OW_env (e' := [_, _, _, _, _, _, _, _, _, _, _, _, _, _, _, _, _, _, _, _, _, _, _, _, _, _, _, _, _, _, _, _, _, _, _, _, _, _, _, _, _, _, _, _, _, _, _, _]) rfl ?_
    refine OW_as rfl rfl ?_
    refine OW_nilE (e' := [_, _, _, _, _, _, _, _, _, _, _, _, _, _, _, _, _, _, _, _, _, _, _, _, _, _, _, _, _, _, _, _, _, _, _, _, _, _, _, _, _, _, _, _, _, _, _, _]) rfl ?_
    refine XW_ret ?_
    -- outcome 1
    refine ret_ret (res1 rfl (rv_tmp rfl)) ?_
    first | (rw [hu, downF_stop (.inl (by omega))] at hq; exact hq _ _ (Own.mono hS1 (le_bef (bef_under (a := []) hU1 (bef_app (a := [0, 1, 1]) hp))))) | (subst hk; rw [hu, downF_stop (.inr (by rw [lessA_eq (by omega) (by omega)]; assumption))] at hq; exact hq _ _ (Own.mono hS1 (le_bef (bef_under (a := []) hU1 (bef_app (a := [0, 1, 1]) hp)))))
  · try simp only [decide_eq_true_eq, decide_eq_false_iff_not, Bool.not_eq_true', Bool.not_eq_false', Bool.and_eq_true, Bool.or_eq_true, Bool.not_eq_true, Bool.not_eq_false, Decidable.not_not, bne_iff_ne, beq_iff_eq, List.length_append, List.length_cons, List.length_nil, List.length_drop, List.length_take] at g3_4
    refine OW_mv rfl rfl ?_
    refine OW_env (e' := [_, _, _, _, _, _, _, _, _, _, _, _, _, _, _, _, _, _, _, _, _, _, _, _, _, _, _, _, _, _, _, _, _, _, _, _, _, _, _, _, _, _, _, _, _, _, _, _]) rfl ?_
    refine OW_bin rfl rfl rfl rfl rfl ?_
    refine OW_pick rfl rfl rfl ?_
    refine OW_nilE (e' := [_, _, _, _, _, _, _, _, _, _, _, _, _, _, _, _, _, _, _, _, _, _, _, _, _, _, _, _, _, _, _, _, _, _, _, _, _, _, _, _, _, _, _, _, _, _, _, _]) rfl ?_
    refine XW_if rfl (fun h3 => ?_) (fun h3 => ?_)
    · try simp only [decide_eq_true_eq, decide_eq_false_iff_not, Bool.not_eq_true', Bool.not_eq_false', Bool.and_eq_true, Bool.or_eq_true, Bool.not_eq_true, Bool.not_eq_false, Decidable.not_not, bne_iff_ne, beq_iff_eq, List.length_append, List.length_cons, List.length_nil, List.length_drop, List.length_take] at h3
      refine XW_exit ?_
      refine then_exit ?_
      refine block_exit_ne rfl ?_
      refine block_exit ?_
      refine then_norm ?_
      refine XW_sr ?_
      refine OW_mv rfl rfl ?_
      refine OW_mv rfl rfl ?_
      refine OW_bin rfl rfl rfl rfl rfl ?_
      refine OW_env (e' := [_, _, _, _, _, _, _, _, _, _, _, _, _, _, _, _, _, _, _, _, _, _, _, _, _, _, _, _, _, _, _, _, _, _, _, _, _, _, _, _, _, _, _, _, _, _, _, _]) rfl ?_
      refine OW_as rfl rfl ?_
      refine OW_nilE (e' := [_, _, _, _, _, _, _, _, _, _, _, _, _, _, _, _, _, _, _, _, _, _, _, _, _, _, _, _, _, _, _, _, _, _, _, _, _, _, _, _, _, _, _, _, _, _, _, _]) rfl ?_
      refine XW_ret ?_
      -- outcome 2
      refine ret_ret (res1 rfl (rv_tmp rfl)) ?_
      first | (rw [hu, downF_stop (.inl (by omega))] at hq; exact hq _ _ (Own.mono hS1 (le_bef (bef_under (a := []) hU1 (bef_app (a := [0, 1, 1]) hp))))) | (subst hk; rw [hu, downF_stop (.inr (by rw [lessA_eq (by omega) (by omega)]; assumption))] at hq; exact hq _ _ (Own.mono hS1 (le_bef (bef_under (a := []) hU1 (bef_app (a := [0, 1, 1]) hp)))))
    · try simp only [decide_eq_true_eq, decide_eq_false_iff_not, Bool.not_eq_true', Bool.not_eq_false', Bool.and_eq_true, Bool.or_eq_true, Bool.not_eq_true, Bool.not_eq_false, Decidable.not_not, bne_iff_ne, beq_iff_eq, List.length_append, List.length_cons, List.length_nil, List.length_drop, List.length_take] at h3
      refine XW_skip ?_
      refine then_norm ?_
      refine XW_sr ?_
      rw [show (2 * (i : Int) + 1) = ((2 * i + 1 : Nat) : Int) by omega]
      refine OW_mv rfl rfl ?_
      refine OW_as rfl rfl ?_
      refine OW_nilE (e' := [_, _, _, _, _, _, _, _, _, _, _, _, _, _, _, _, _, _, _, _, _, _, _, _, _, _, _, _, _, _, _, _, _, _, _, _, _, _, _, _, _, _, _, _, _, _, _, _]) rfl ?_
      refine XW_mid (M := fun ee H' => ∃ (j : Nat), Own β (1 :: 1 :: 1 :: 1 :: 0 :: ν1) H' (row q 2 [.agg [O, n]] :: sl O 3 (h.map It.enc) :: L) ∧ (j = kid h m i) ∧ ∃ g : Nat → AVal, ee = [.ifc 51 (.ptr q 0 0), .int .i64 i0, .int .i64 m, g 3, g 4, g 5, g 6, .int .i64 i, g 8, .int .i64 j, g 10, g 11, g 12, g 13, g 14, g 15, g 16, g 17, g 18, g 19, g 20, g 21, g 22, g 23, g 24, g 25, g 26, g 27, g 28, g 29, g 30, g 31, g 32, g 33, g 34, g 35, g 36, g 37, g 38, g 39, g 40, g 41, g 42, g 43, g 44, g 45, g 46, g 47]) ?_ ?_
      · skip
        refine XW_sr ?_
        refine OW_mv rfl rfl ?_
        first
        | refine OW_bin rfl rfl rfl rfl (add_w64 (by first | omega | assumption | (simp only [ByteArray.size_append, ByteArray.size_extract, List.length_map, List.length_append, List.length_cons, List.length_nil, List.length_drop, List.length_take]; omega))) ?_
        | refine OW_bin rfl rfl rfl rfl rfl ?_
        rw [show (((2 * i + 1 : Nat) : Int) + 1) = ((2 * i + 2 : Nat) : Int) by omega]
        refine OW_as rfl rfl ?_
        refine OW_nilE (e' := [_, _, _, _, _, _, _, _, _, _, _, _, _, _, _, _, _, _, _, _, _, _, _, _, _, _, _, _, _, _, _, _, _, _, _, _, _, _, _, _, _, _, _, _, _, _, _, _]) rfl ?_
        refine XW_sr ?_
        refine OW_mv rfl rfl ?_
        refine OW_mv rfl rfl ?_
        refine OW_bin rfl rfl rfl rfl rfl ?_
        refine OW_env (e' := [_, _, _, _, _, _, _, _, _, _, _, _, _, _, _, _, _, _, _, _, _, _, _, _, _, _, _, _, _, _, _, _, _, _, _, _, _, _, _, _, _, _, _, _, _, _, _, _]) rfl ?_
        refine OW_mv rfl rfl ?_
        refine OW_split (tt := 28) rfl (fun g6_4 => ?_) (fun g6_4 => ?_)
        · try simp only [decide_eq_true_eq, decide_eq_false_iff_not, Bool.not_eq_true', Bool.not_eq_false', Bool.and_eq_true, Bool.or_eq_true, Bool.not_eq_true, Bool.not_eq_false, Decidable.not_not, bne_iff_ne, beq_iff_eq, List.length_append, List.length_cons, List.length_nil, List.length_drop, List.length_take] at g6_4
          refine OW_mv rfl rfl ?_
          refine OW_env (e' := [_, _, _, _, _, _, _, _, _, _, _, _, _, _, _, _, _, _, _, _, _, _, _, _, _, _, _, _, _, _, _, _, _, _, _, _, _, _, _, _, _, _, _, _, _, _, _, _]) rfl ?_
          refine OW_mv rfl rfl ?_
          refine OW_mv rfl rfl ?_
          refine OW_invL M51Less rfl rfl (Own.aload hS1 (k := 0) rfl rfl rfl) rfl (less_c (hS1.freeze0 (k := 1) rfl (map_plain (fun _ => rfl))) (by omega) (by omega) ?_)
          refine OW_env (e' := [_, _, _, _, _, _, _, _, _, _, _, _, _, _, _, _, _, _, _, _, _, _, _, _, _, _, _, _, _, _, _, _, _, _, _, _, _, _, _, _, _, _, _, _, _, _, _, _]) rfl ?_
          refine OW_pick rfl rfl rfl ?_
          refine OW_nilE (e' := [_, _, _, _, _, _, _, _, _, _, _, _, _, _, _, _, _, _, _, _, _, _, _, _, _, _, _, _, _, _, _, _, _, _, _, _, _, _, _, _, _, _, _, _, _, _, _, _]) rfl ?_
          refine XW_if rfl (fun h6 => ?_) (fun h6 => ?_)
          · try simp only [decide_eq_true_eq, decide_eq_false_iff_not, Bool.not_eq_true', Bool.not_eq_false', Bool.and_eq_true, Bool.or_eq_true, Bool.not_eq_true, Bool.not_eq_false, Decidable.not_not, bne_iff_ne, beq_iff_eq, List.length_append, List.length_cons, List.length_nil, List.length_drop, List.length_take] at h6
            refine XW_region ?_
            refine OW_mv rfl rfl ?_
            refine OW_as rfl rfl ?_
            refine OW_nilE (e' := [_, _, _, _, _, _, _, _, _, _, _, _, _, _, _, _, _, _, _, _, _, _, _, _, _, _, _, _, _, _, _, _, _, _, _, _, _, _, _, _, _, _, _, _, _, _, _, _]) rfl ?_
            -- mid 8.1
            refine ⟨_, Own.cast (Own.mono (hS1) (le_app (p := ν1) (b := [1, 1, 1, 1, 0]))) (rfl), ?_, env_g rfl⟩
            · first | exact (if_pos ⟨by omega, by rw [lessA_eq (by omega) (by omega)]; assumption⟩).symm | exact (if_neg (by rintro ⟨e1, e2⟩; first | omega | (rw [lessA_eq (by omega) (by omega)] at e2; simp_all))).symm
          · try simp only [decide_eq_true_eq, decide_eq_false_iff_not, Bool.not_eq_true', Bool.not_eq_false', Bool.and_eq_true, Bool.or_eq_true, Bool.not_eq_true, Bool.not_eq_false, Decidable.not_not, bne_iff_ne, beq_iff_eq, List.length_append, List.length_cons, List.length_nil, List.length_drop, List.length_take] at h6
            refine XW_skip ?_
            -- mid 8.2
            refine ⟨_, Own.cast (Own.mono (hS1) (le_app (p := ν1) (b := [1, 1, 1, 1, 0]))) (rfl), ?_, env_g rfl⟩
            · first | exact (if_pos ⟨by omega, by rw [lessA_eq (by omega) (by omega)]; assumption⟩).symm | exact (if_neg (by rintro ⟨e1, e2⟩; first | omega | (rw [lessA_eq (by omega) (by omega)] at e2; simp_all))).symm
        · try simp only [decide_eq_true_eq, decide_eq_false_iff_not, Bool.not_eq_true', Bool.not_eq_false', Bool.and_eq_true, Bool.or_eq_true, Bool.not_eq_true, Bool.not_eq_false, Decidable.not_not, bne_iff_ne, beq_iff_eq, List.length_append, List.length_cons, List.length_nil, List.length_drop, List.length_take] at g6_4
          refine OW_no rfl ?_
          refine OW_env (e' := [_, _, _, _, _, _, _, _, _, _, _, _, _, _, _, _, _, _, _, _, _, _, _, _, _, _, _, _, _, _, _, _, _, _, _, _, _, _, _, _, _, _, _, _, _, _, _, _]) rfl ?_
          refine OW_no rfl ?_
          refine OW_no rfl ?_
          refine OW_no rfl ?_
          refine OW_env (e' := [_, _, _, _, _, _, _, _, _, _, _, _, _, _, _, _, _, _, _, _, _, _, _, _, _, _, _, _, _, _, _, _, _, _, _, _, _, _, _, _, _, _, _, _, _, _, _, _]) rfl ?_
          refine OW_pick rfl rfl rfl ?_
          refine OW_nilE (e' := [_, _, _, _, _, _, _, _, _, _, _, _, _, _, _, _, _, _, _, _, _, _, _, _, _, _, _, _, _, _, _, _, _, _, _, _, _, _, _, _, _, _, _, _, _, _, _, _]) rfl ?_
          refine XW_no rfl rfl ?_
          refine XW_skip ?_
          -- mid 8.3
          refine ⟨_, Own.cast (Own.mono (hS1) (le_app (p := ν1) (b := [1, 1, 1, 1, 0]))) (rfl), ?_, env_g rfl⟩
          · first | exact (if_pos ⟨by omega, by rw [lessA_eq (by omega) (by omega)]; assumption⟩).symm | exact (if_neg (by rintro ⟨e1, e2⟩; first | omega | (rw [lessA_eq (by omega) (by omega)] at e2; simp_all))).symm
      · rintro ee H2 ⟨j, hS2, hk, g2, rfl⟩
        have hk1 := kid_gt h m i; have hk2 := kid_lt (h := h) (n := m) (i := i) (by omega)
        refine XW_seq ?_
        refine XW_sr ?_
        refine OW_mv rfl rfl ?_
        refine OW_mv rfl rfl ?_
        refine OW_mv rfl rfl ?_
        refine OW_env (e' := [_, _, _, _, _, _, _, _, _, _, _, _, _, _, _, _, _, _, _, _, _, _, _, _, _, _, _, _, _, _, _, _, _, _, _, _, _, _, _, _, _, _, _, _, _, _, _, _]) rfl ?_
        refine OW_invL M51Less rfl rfl (Own.aload hS2 (k := 0) rfl rfl rfl) rfl (less_c (hS2.freeze0 (k := 1) rfl (map_plain (fun _ => rfl))) (by omega) (by omega) ?_)
        refine OW_un rfl rfl rfl ?_
        refine OW_nilE (e' := [_, _, _, _, _, _, _, _, _, _, _, _, _, _, _, _, _, _, _, _, _, _, _, _, _, _, _, _, _, _, _, _, _, _, _, _, _, _, _, _, _, _, _, _, _, _, _, _]) rfl ?_
        refine XW_if rfl (fun h8 => ?_) (fun h8 => ?_)
        · try simp only [decide_eq_true_eq, decide_eq_false_iff_not, Bool.not_eq_true', Bool.not_eq_false', Bool.and_eq_true, Bool.or_eq_true, Bool.not_eq_true, Bool.not_eq_false, Decidable.not_not, bne_iff_ne, beq_iff_eq, List.length_append, List.length_cons, List.length_nil, List.length_drop, List.length_take] at h8
          refine XW_exit ?_
          refine then_exit ?_
          refine block_exit_ne rfl ?_
          refine block_exit ?_
          refine then_norm ?_
          refine XW_sr ?_
          refine OW_mv rfl rfl ?_
          refine OW_mv rfl rfl ?_
          refine OW_bin rfl rfl rfl rfl rfl ?_
          refine OW_env (e' := [_, _, _, _, _, _, _, _, _, _, _, _, _, _, _, _, _, _, _, _, _, _, _, _, _, _, _, _, _, _, _, _, _, _, _, _, _, _, _, _, _, _, _, _, _, _, _, _]) rfl ?_
          refine OW_as rfl rfl ?_
          refine OW_nilE (e' := [_, _, _, _, _, _, _, _, _, _, _, _, _, _, _, _, _, _, _, _, _, _, _, _, _, _, _, _, _, _, _, _, _, _, _, _, _, _, _, _, _, _, _, _, _, _, _, _]) rfl ?_
          refine XW_ret ?_
          -- outcome 3
          refine ret_ret (res1 rfl (rv_tmp rfl)) ?_
          first | (rw [hu, downF_stop (.inl (by omega))] at hq; exact hq _ _ (Own.mono hS2 (le_bef (bef_under (a := [1, 1, 1, 1, 0]) hU1 (bef_app (a := [0, 1, 1]) hp))))) | (subst hk; rw [hu, downF_stop (.inr (by rw [lessA_eq (by omega) (by omega)]; assumption))] at hq; exact hq _ _ (Own.mono hS2 (le_bef (bef_under (a := [1, 1, 1, 1, 0]) hU1 (bef_app (a := [0, 1, 1]) hp)))))
        · try simp only [decide_eq_true_eq, decide_eq_false_iff_not, Bool.not_eq_true', Bool.not_eq_false', Bool.and_eq_true, Bool.or_eq_true, Bool.not_eq_true, Bool.not_eq_false, Decidable.not_not, bne_iff_ne, beq_iff_eq, List.length_append, List.length_cons, List.length_nil, List.length_drop, List.length_take] at h8
          refine XW_skip ?_
          refine then_norm ?_
          refine XW_sr ?_
          refine OW_mv rfl rfl ?_
          refine OW_mv rfl rfl ?_
          refine OW_mv rfl rfl ?_
          refine OW_env (e' := [_, _, _, _, _, _, _, _, _, _, _, _, _, _, _, _, _, _, _, _, _, _, _, _, _, _, _, _, _, _, _, _, _, _, _, _, _, _, _, _, _, _, _, _, _, _, _, _]) rfl ?_
          refine OW_invL M51Swap rfl rfl (Own.aload hS2 (k := 0) rfl rfl rfl) rfl (swap_c hS2 (k := 1) rfl (le_app (p := 1 :: 1 :: 1 :: 1 :: 0 :: ν1) (b := [3, 0, 1])) (under_app [3, 0, 1, 1, 1, 1, 1, 0] (under_trans (under_app [0, 1, 1] hβ) hU1)) (before_lit (ν := ν1) (a := [3, 0, 1, 1, 1, 1, 1, 0]) (b := [4, 0, 1, 1, 1, 1, 1, 0]) (by decide)) (by omega) (by omega) fun H3 hS3 => ?_)
          replace hS3 : Own _ _ _ (_ :: _ :: L) := hS3
          refine OW_nilE (e' := [_, _, _, _, _, _, _, _, _, _, _, _, _, _, _, _, _, _, _, _, _, _, _, _, _, _, _, _, _, _, _, _, _, _, _, _, _, _, _, _, _, _, _, _, _, _, _, _]) rfl ?_
          refine XW_region ?_
          refine OW_mv rfl rfl ?_
          refine OW_as rfl rfl ?_
          refine OW_nilE (e' := [_, _, _, _, _, _, _, _, _, _, _, _, _, _, _, _, _, _, _, _, _, _, _, _, _, _, _, _, _, _, _, _, _, _, _, _, _, _, _, _, _, _, _, _, _, _, _, _]) rfl ?_
          refine block_norm ?_
          -- round 0.1
          refine ⟨_, ?_, swp h i j, j, rfl, under_in hU1, Own.cast (Own.mono (hS3) (le_lit (ν := ν1) (a := [4, 0, 1, 1, 1, 1, 1, 0]) (b := [1]) (by decide))) (rfl), ?_, env_g rfl⟩
          · first | omega | (simp; omega)
          · exact ⟨by rw [swp_len]; exact hl, by omega, hu.trans (by subst hk; exact downF_go (by omega) (by rw [lessA_eq (by omega) (by omega)]; assumption))⟩
end Go.Proofs.Ytamdokgbenbndaa.X
