/- Layer 03: an oracle behind some calls; the laws IdealShown and IdealDraws, reckoned. -/
import Derived.Test.YtofeelhaifeenaaJ12
set_option linter.unusedVariables false
set_option linter.unusedSimpArgs false
set_option maxRecDepth 100000
namespace Go.Proofs.Ytofeelhaifeenaa.X
open Go Go.RowKit
variable {ν β ps pos' : Nm} {H : Heap} {Q : AVal → Heap → Prop} {L : List Asr} {q : Nm} {k : Nat} {S : Rf}
theorem oNewO {v : AVal} {d : List Int} {k : Nat} (hS : Own β ps H L) (hL : L[k]? = some (sl v 1 (d.map Int.enc))) (hle : le ps ν) (hβ : under β ν = true) (hp : before ν pos') (hd : d.length ≤ 4294967000)
    (hq : ∀ q H1, Own β pos' H1 (orc q (Rf.new d).of :: L) → Q (.ptr q 0 0) H1) : CW cfg ν 10 [v] H Q :=
  iNewO hS hL hle hβ hp hd fun q H1 h1 => hq q H1 (by rw [of_new]; exact h1)
/-- An oracle behind at most 200 calls. -/
def Rf.pl (d : List Int) (l : List Ca) : Rf := (Rf.new d).run (l.take 200)
theorem Rf.pl_le (d : List Int) (l : List Ca) : (Rf.pl d l).le 200 := by
  have := Rf.run_le (l.take 200) (Rf.new_le d)
  refine this.mono ?_
  rw [List.length_take]; omega
theorem Rf.pl_inv (d : List Int) (l : List Ca) : (Rf.pl d l).Inv := Rf.run_inv _ (Rf.new_inv d)
theorem Rf.step {d : List Int} {l : List Ca} {i : Nat} (h : i < l.length) : (((Rf.new d).run (l.take i)).act l[i]).2.2.2 = (Rf.new d).run (l.take (i + 1)) := by
  rw [← List.take_append_getElem h, Rf.run_snoc]
theorem Rf.run_rows {d : List Int} {l : List Ca} {i : Nat} (h : i ≤ 200) : ((Rf.new d).run (l.take i)).rows.length ≤ 4294967000 := by
  have := (Rf.run_le (l.take i) (Rf.new_le d)).rows
  rw [List.length_take] at this
  omega
theorem Rf.stop {d : List Int} {l : List Ca} {i : Nat} (hi : i ≤ 200) (h : l.length ≤ i ∨ 200 ≤ i) : (Rf.new d).run (l.take i) = Rf.pl d l := by
  unfold Rf.pl
  rcases h with h | h
  · rw [List.take_of_length_le h, List.take_of_length_le (by omega)]
  · obtain rfl : i = 200 := by omega
    rfl
theorem playedW (hS : Own β ps H L) (hle : le ps ν) (hβ : under β ν = true) (hp : before ν pos') {v w : AVal} {d : List Int} {l : List Ca} (hv : Ls v (d.map Int.enc)) (hw : Ls w (l.map Ca.enc)) (hd : d.length ≤ 4294967000) (hl : l.length ≤ 1048576)
    (hq : ∀ q H1, Own β pos' H1 (orc q (Rf.pl d l).of :: L) → Q (.ptr q 0 0) H1) : CW cfg ν 18 [v, w] H Q := by
  refine CW_keep g18 F18 rfl ?_
  replace hS := Own.mono hS hle
  refine XW_sr ?_
  refine OW_as rfl rfl ?_
  refine OW_nilE (e' := [_, _, _, _, _, _, _, _, _, _, _, _, _, _, _, _, _, _, _, _, _, _, _, _, _, _]) rfl ?_
  refine XW_sr ?_
  refine OW_mv rfl rfl ?_
  refine OW_fn rfl rfl (oNew hS (le_app (p := ν) (b := [1, 0, 1])) (under_app [1, 0, 1] hβ) (before_lit (ν := ν) (a := [1, 0, 1]) (b := [2, 0, 1]) (by decide)) hv (by omega) fun q1 H1 hS1 => ?_) 
  replace hS1 : Own _ _ _ (_ :: L) := hS1
  refine OW_as rfl rfl ?_
  refine OW_nilE (e' := [_, _, _, _, _, _, _, _, _, _, _, _, _, _, _, _, _, _, _, _, _, _, _, _, _, _]) rfl ?_
  refine XW_seq ?_
  refine XW_sr ?_
  refine OW_as rfl rfl ?_
  refine OW_nilE (e' := [_, _, _, _, _, _, _, _, _, _, _, _, _, _, _, _, _, _, _, _, _, _, _, _, _, _]) rfl ?_
  refine XW_block ?_
  refine XW_whileN (I := fun ν' mm ee H' => ∃ (i : Nat), mm = l.length - i ∧ under (1 :: 0 :: 1 :: 1 :: ν) ν' = true ∧ Own β ν' H' (orc q1 ((Rf.new d).run (l.take i)).of :: L) ∧ (i ≤ l.length ∧ i ≤ 200) ∧ ∃ g : Nat → AVal, ee = [g 0, w, g 2, g 3, g 4, .ptr q1 0 0, .int .i64 i, g 7, g 8, g 9, g 10, g 11, g 12, g 13, g 14, g 15, g 16, g 17, g 18, g 19, g 20, g 21, g 22, g 23, g 24, g 25]) ?_ _ _ _ _ ⟨0, rfl, under_me, Own.cast (Own.mono (hS1) (le_lit (ν := ν) (a := [2, 0, 1]) (b := [1, 0, 1, 1]) (by decide))) (rfl), (⟨Nat.zero_le _, by omega⟩), env_g rfl⟩
  rintro ν1 mm ee H2 ⟨i, rfl, hU1, hS2, ⟨hi, hi2⟩, g1, rfl⟩
  refine XW_seq ?_
  refine XW_sr ?_
  refine OW_mv rfl rfl ?_
  refine OW_mv rfl rfl ?_
  first
  | refine OW_lenL rfl rfl (by first | assumption | exact Ls.of | exact Ls.emp | exact Ls.nls) rfl rfl rfl (by first | exact List.length_map _ | rfl) ?_
  | refine OW_bi rfl rfl rfl ?_
  refine OW_env (e' := [_, _, _, _, _, _, _, _, _, _, _, _, _, _, _, _, _, _, _, _, _, _, _, _, _, _]) rfl ?_
  refine OW_bin rfl rfl rfl rfl rfl ?_
  refine OW_mv rfl rfl ?_
  refine OW_split (tt := 13) rfl (fun g3_5 => ?_) (fun g3_5 => ?_)
  · try simp only [decide_eq_true_eq, decide_eq_false_iff_not, Bool.not_eq_true', Bool.not_eq_false', Bool.and_eq_true, Bool.or_eq_true, Bool.not_eq_true, Bool.not_eq_false, Decidable.not_not, bne_iff_ne, beq_iff_eq, List.length_append, List.length_cons, List.length_nil, List.length_drop, List.length_take] at g3_5
    refine OW_env (e' := [_, _, _, _, _, _, _, _, _, _, _, _, _, _, _, _, _, _, _, _, _, _, _, _, _, _]) rfl ?_
    refine OW_mv rfl rfl ?_
    refine OW_bin rfl rfl rfl rfl rfl ?_
    refine OW_pick rfl rfl rfl ?_
    refine OW_nilE (e' := [_, _, _, _, _, _, _, _, _, _, _, _, _, _, _, _, _, _, _, _, _, _, _, _, _, _]) rfl ?_
    refine XW_if rfl (fun h3 => ?_) (fun h3 => ?_)
    · try simp only [decide_eq_true_eq, decide_eq_false_iff_not, Bool.not_eq_true', Bool.not_eq_false', Bool.and_eq_true, Bool.or_eq_true, Bool.not_eq_true, Bool.not_eq_false, Decidable.not_not, bne_iff_ne, beq_iff_eq, List.length_append, List.length_cons, List.length_nil, List.length_drop, List.length_take] at h3
      refine XW_skip ?_
      refine then_norm ?_
      refine XW_seq ?_
      refine XW_block ?_
      refine XW_region ?_
      refine OW_mv rfl rfl ?_
      refine OW_mv rfl rfl ?_
      refine OW_mv rfl rfl ?_
      refine OW_env (e' := [_, _, _, _, _, _, _, _, _, _, _, _, _, _, _, _, _, _, _, _, _, _, _, _, _, _]) rfl ?_
      first
      | refine OW_iaL rfl rfl rfl Ls.of rfl rfl rfl (by first | rfl | exact (Int.toNat_of_nonneg (by omega)).symm) (by first | assumption | exact at_map (by first | assumption | omega) | exact at_lst (by omega) | rfl) rfl ?_
      | refine OW_iaL rfl rfl rfl (by assumption) rfl rfl rfl (by first | rfl | exact (Int.toNat_of_nonneg (by omega)).symm) (by first | assumption | exact at_map (by first | assumption | omega) | exact at_lst (by omega) | rfl) rfl ?_
      refine OW_loadE rfl rfl rfl (by first | exact part_whole rfl rfl rfl | rfl) ?_
      refine OW_fn rfl rfl (oDo hS2 (k := 0) rfl (le_app (p := ν1) (b := [5, 0, 1, 0])) (under_app [5, 0, 1, 0] (under_trans (under_app [1, 0, 1, 1] hβ) hU1)) (before_lit (ν := ν1) (a := [5, 0, 1, 0]) (b := [6, 0, 1, 0]) (by decide)) (Rf.run_rows (by omega)) _ fun H3 hS3 => ?_) 
      replace hS3 : Own _ _ _ (_ :: L) := hS3
      refine OW_nilE (e' := [_, _, _, _, _, _, _, _, _, _, _, _, _, _, _, _, _, _, _, _, _, _, _, _, _, _]) rfl ?_
      refine block_norm ?_
      refine then_norm ?_
      refine XW_region ?_
      refine OW_mv rfl rfl ?_
      first
      | refine OW_bin rfl rfl rfl rfl (add_w64 (by first | omega | assumption | (simp only [ByteArray.size_append, ByteArray.size_extract, List.length_map, List.length_append, List.length_cons, List.length_nil, List.length_drop, List.length_take]; omega))) ?_
      | refine OW_bin rfl rfl rfl rfl rfl ?_
      refine OW_as rfl rfl ?_
      refine OW_nilE (e' := [_, _, _, _, _, _, _, _, _, _, _, _, _, _, _, _, _, _, _, _, _, _, _, _, _, _]) rfl ?_
      -- round 0.1
      refine ⟨_, ?_, i + 1, rfl, under_in hU1, Own.cast (Own.mono (hS3) (le_lit (ν := ν1) (a := [6, 0, 1, 0]) (b := [1]) (by decide))) (by rw [Rf.step (by omega)]), ?_, env_g rfl⟩
      · first | omega | (simp; omega)
      · exact ⟨by omega, by omega⟩
    · try simp only [decide_eq_true_eq, decide_eq_false_iff_not, Bool.not_eq_true', Bool.not_eq_false', Bool.and_eq_true, Bool.or_eq_true, Bool.not_eq_true, Bool.not_eq_false, Decidable.not_not, bne_iff_ne, beq_iff_eq, List.length_append, List.length_cons, List.length_nil, List.length_drop, List.length_take] at h3
      refine XW_exit ?_
      refine then_exit ?_
      refine block_exit ?_
      refine then_norm ?_
      refine XW_sr ?_
      refine OW_mv rfl rfl ?_
      refine OW_as rfl rfl ?_
      refine OW_nilE (e' := [_, _, _, _, _, _, _, _, _, _, _, _, _, _, _, _, _, _, _, _, _, _, _, _, _, _]) rfl ?_
      refine XW_ret ?_
      -- outcome 1
      refine ret_ret (res1 rfl (rv_tmp rfl)) ?_
      refine hq q1 _ (Own.re (Own.mono hS2 (le_bef (bef_under (a := []) hU1 (bef_app (a := [1, 0, 1, 1]) hp)))) (by rw [Rf.stop hi2 (by omega)]))
  · try simp only [decide_eq_true_eq, decide_eq_false_iff_not, Bool.not_eq_true', Bool.not_eq_false', Bool.and_eq_true, Bool.or_eq_true, Bool.not_eq_true, Bool.not_eq_false, Decidable.not_not, bne_iff_ne, beq_iff_eq, List.length_append, List.length_cons, List.length_nil, List.length_drop, List.length_take] at g3_5
    refine OW_env (e' := [_, _, _, _, _, _, _, _, _, _, _, _, _, _, _, _, _, _, _, _, _, _, _, _, _, _]) rfl ?_
    refine OW_no rfl ?_
    refine OW_no rfl ?_
    refine OW_pick rfl rfl rfl ?_
    refine OW_nilE (e' := [_, _, _, _, _, _, _, _, _, _, _, _, _, _, _, _, _, _, _, _, _, _, _, _, _, _]) rfl ?_
    refine XW_no rfl rfl ?_
    refine XW_exit ?_
    refine then_exit ?_
    refine block_exit ?_
    refine then_norm ?_
    refine XW_sr ?_
    refine OW_mv rfl rfl ?_
    refine OW_as rfl rfl ?_
    refine OW_nilE (e' := [_, _, _, _, _, _, _, _, _, _, _, _, _, _, _, _, _, _, _, _, _, _, _, _, _, _]) rfl ?_
    refine XW_ret ?_
    -- outcome 2
    refine ret_ret (res1 rfl (rv_tmp rfl)) ?_
    refine hq q1 _ (Own.re (Own.mono hS2 (le_bef (bef_under (a := []) hU1 (bef_app (a := [1, 0, 1, 1]) hp)))) (by rw [Rf.stop hi2 (by omega)]))
theorem playedO {v w : AVal} {d : List Int} {l : List Ca} (hS : Own β ps H L) (hL : L[k]? = some (sl v 1 (d.map Int.enc))) (hle : le ps ν) (hβ : under β ν = true) (hp : before ν pos') (hw : Ls w (l.map Ca.enc)) (hd : d.length ≤ 4294967000) (hl : l.length ≤ 1048576)
    (hq : ∀ q H1, Own β pos' H1 (orc q (Rf.pl d l).of :: L) → Q (.ptr q 0 0) H1) : CW cfg ν 18 [v, w] H Q := by
  refine CW_keep g18 F18 rfl ?_
  replace hS := Own.mono hS hle
  refine XW_sr ?_
  refine OW_as rfl rfl ?_
  refine OW_nilE (e' := [_, _, _, _, _, _, _, _, _, _, _, _, _, _, _, _, _, _, _, _, _, _, _, _, _, _]) rfl ?_
  refine XW_sr ?_
  refine OW_mv rfl rfl ?_
  refine OW_fn rfl rfl (oNewO hS (k := k) hL (le_app (p := ν) (b := [1, 0, 1])) (under_app [1, 0, 1] hβ) (before_lit (ν := ν) (a := [1, 0, 1]) (b := [2, 0, 1]) (by decide)) (by omega) fun q1 H1 hS1 => ?_) 
  replace hS1 : Own _ _ _ (_ :: L) := hS1
  refine OW_as rfl rfl ?_
  refine OW_nilE (e' := [_, _, _, _, _, _, _, _, _, _, _, _, _, _, _, _, _, _, _, _, _, _, _, _, _, _]) rfl ?_
  refine XW_seq ?_
  refine XW_sr ?_
  refine OW_as rfl rfl ?_
  refine OW_nilE (e' := [_, _, _, _, _, _, _, _, _, _, _, _, _, _, _, _, _, _, _, _, _, _, _, _, _, _]) rfl ?_
  refine XW_block ?_
  refine XW_whileN (I := fun ν' mm ee H' => ∃ (i : Nat), mm = l.length - i ∧ under (1 :: 0 :: 1 :: 1 :: ν) ν' = true ∧ Own β ν' H' (orc q1 ((Rf.new d).run (l.take i)).of :: L) ∧ (i ≤ l.length ∧ i ≤ 200) ∧ ∃ g : Nat → AVal, ee = [g 0, w, g 2, g 3, g 4, .ptr q1 0 0, .int .i64 i, g 7, g 8, g 9, g 10, g 11, g 12, g 13, g 14, g 15, g 16, g 17, g 18, g 19, g 20, g 21, g 22, g 23, g 24, g 25]) ?_ _ _ _ _ ⟨0, rfl, under_me, Own.cast (Own.mono (hS1) (le_lit (ν := ν) (a := [2, 0, 1]) (b := [1, 0, 1, 1]) (by decide))) (rfl), (⟨Nat.zero_le _, by omega⟩), env_g rfl⟩
  rintro ν1 mm ee H2 ⟨i, rfl, hU1, hS2, ⟨hi, hi2⟩, g1, rfl⟩
  refine XW_seq ?_
  refine XW_sr ?_
  refine OW_mv rfl rfl ?_
  refine OW_mv rfl rfl ?_
  first
  | refine OW_lenL rfl rfl (by first | assumption | exact Ls.of | exact Ls.emp | exact Ls.nls) rfl rfl rfl (by first | exact List.length_map _ | rfl) ?_
  | refine OW_bi rfl rfl rfl ?_
  refine OW_env (e' := [_, _, _, _, _, _, _, _, _, _, _, _, _, _, _, _, _, _, _, _, _, _, _, _, _, _]) rfl ?_
  refine OW_bin rfl rfl rfl rfl rfl ?_
  refine OW_mv rfl rfl ?_
  refine OW_split (tt := 13) rfl (fun g3_5 => ?_) (fun g3_5 => ?_)
  · try simp only [decide_eq_true_eq, decide_eq_false_iff_not, Bool.not_eq_true', Bool.not_eq_false', Bool.and_eq_true, Bool.or_eq_true, Bool.not_eq_true, Bool.not_eq_false, Decidable.not_not, bne_iff_ne, beq_iff_eq, List.length_append, List.length_cons, List.length_nil, List.length_drop, List.length_take] at g3_5
    refine OW_env (e' := [_, _, _, _, _, _, _, _, _, _, _, _, _, _, _, _, _, _, _, _, _, _, _, _, _, _]) rfl ?_
    refine OW_mv rfl rfl ?_
    refine OW_bin rfl rfl rfl rfl rfl ?_
    refine OW_pick rfl rfl rfl ?_
    refine OW_nilE (e' := [_, _, _, _, _, _, _, _, _, _, _, _, _, _, _, _, _, _, _, _, _, _, _, _, _, _]) rfl ?_
    refine XW_if rfl (fun h3 => ?_) (fun h3 => ?_)
    · try simp only [decide_eq_true_eq, decide_eq_false_iff_not, Bool.not_eq_true', Bool.not_eq_false', Bool.and_eq_true, Bool.or_eq_true, Bool.not_eq_true, Bool.not_eq_false, Decidable.not_not, bne_iff_ne, beq_iff_eq, List.length_append, List.length_cons, List.length_nil, List.length_drop, List.length_take] at h3
      refine XW_skip ?_
      refine then_norm ?_
      refine XW_seq ?_
      refine XW_block ?_
      refine XW_region ?_
      refine OW_mv rfl rfl ?_
      refine OW_mv rfl rfl ?_
      refine OW_mv rfl rfl ?_
      refine OW_env (e' := [_, _, _, _, _, _, _, _, _, _, _, _, _, _, _, _, _, _, _, _, _, _, _, _, _, _]) rfl ?_
      first
      | refine OW_iaL rfl rfl rfl Ls.of rfl rfl rfl (by first | rfl | exact (Int.toNat_of_nonneg (by omega)).symm) (by first | assumption | exact at_map (by first | assumption | omega) | exact at_lst (by omega) | rfl) rfl ?_
      | refine OW_iaL rfl rfl rfl (by assumption) rfl rfl rfl (by first | rfl | exact (Int.toNat_of_nonneg (by omega)).symm) (by first | assumption | exact at_map (by first | assumption | omega) | exact at_lst (by omega) | rfl) rfl ?_
      refine OW_loadE rfl rfl rfl (by first | exact part_whole rfl rfl rfl | rfl) ?_
      refine OW_fn rfl rfl (oDo hS2 (k := 0) rfl (le_app (p := ν1) (b := [5, 0, 1, 0])) (under_app [5, 0, 1, 0] (under_trans (under_app [1, 0, 1, 1] hβ) hU1)) (before_lit (ν := ν1) (a := [5, 0, 1, 0]) (b := [6, 0, 1, 0]) (by decide)) (Rf.run_rows (by omega)) _ fun H3 hS3 => ?_) 
      replace hS3 : Own _ _ _ (_ :: L) := hS3
      refine OW_nilE (e' := [_, _, _, _, _, _, _, _, _, _, _, _, _, _, _, _, _, _, _, _, _, _, _, _, _, _]) rfl ?_
      refine block_norm ?_
      refine then_norm ?_
      refine XW_region ?_
      refine OW_mv rfl rfl ?_
      first
      | refine OW_bin rfl rfl rfl rfl (add_w64 (by first | omega | assumption | (simp only [ByteArray.size_append, ByteArray.size_extract, List.length_map, List.length_append, List.length_cons, List.length_nil, List.length_drop, List.length_take]; omega))) ?_
      | refine OW_bin rfl rfl rfl rfl rfl ?_
      refine OW_as rfl rfl ?_
      refine OW_nilE (e' := [_, _, _, _, _, _, _, _, _, _, _, _, _, _, _, _, _, _, _, _, _, _, _, _, _, _]) rfl ?_
      -- round 0.1
      refine ⟨_, ?_, i + 1, rfl, under_in hU1, Own.cast (Own.mono (hS3) (le_lit (ν := ν1) (a := [6, 0, 1, 0]) (b := [1]) (by decide))) (by rw [Rf.step (by omega)]), ?_, env_g rfl⟩
      · first | omega | (simp; omega)
      · exact ⟨by omega, by omega⟩
    · try simp only [decide_eq_true_eq, decide_eq_false_iff_not, Bool.not_eq_true', Bool.not_eq_false', Bool.and_eq_true, Bool.or_eq_true, Bool.not_eq_true, Bool.not_eq_false, Decidable.not_not, bne_iff_ne, beq_iff_eq, List.length_append, List.length_cons, List.length_nil, List.length_drop, List.length_take] at h3
      refine XW_exit ?_
      refine then_exit ?_
      refine block_exit ?_
      refine then_norm ?_
      refine XW_sr ?_
      refine OW_mv rfl rfl ?_
      refine OW_as rfl rfl ?_
      refine OW_nilE (e' := [_, _, _, _, _, _, _, _, _, _, _, _, _, _, _, _, _, _, _, _, _, _, _, _, _, _]) rfl ?_
      refine XW_ret ?_
      -- outcome 1
      refine ret_ret (res1 rfl (rv_tmp rfl)) ?_
      refine hq q1 _ (Own.re (Own.mono hS2 (le_bef (bef_under (a := []) hU1 (bef_app (a := [1, 0, 1, 1]) hp)))) (by rw [Rf.stop hi2 (by omega)]))
  · try simp only [decide_eq_true_eq, decide_eq_false_iff_not, Bool.not_eq_true', Bool.not_eq_false', Bool.and_eq_true, Bool.or_eq_true, Bool.not_eq_true, Bool.not_eq_false, Decidable.not_not, bne_iff_ne, beq_iff_eq, List.length_append, List.length_cons, List.length_nil, List.length_drop, List.length_take] at g3_5
    refine OW_env (e' := [_, _, _, _, _, _, _, _, _, _, _, _, _, _, _, _, _, _, _, _, _, _, _, _, _, _]) rfl ?_
    refine OW_no rfl ?_
    refine OW_no rfl ?_
    refine OW_pick rfl rfl rfl ?_
    refine OW_nilE (e' := [_, _, _, _, _, _, _, _, _, _, _, _, _, _, _, _, _, _, _, _, _, _, _, _, _, _]) rfl ?_
    refine XW_no rfl rfl ?_
    refine XW_exit ?_
    refine then_exit ?_
    refine block_exit ?_
    refine then_norm ?_
    refine XW_sr ?_
    refine OW_mv rfl rfl ?_
    refine OW_as rfl rfl ?_
    refine OW_nilE (e' := [_, _, _, _, _, _, _, _, _, _, _, _, _, _, _, _, _, _, _, _, _, _, _, _, _, _]) rfl ?_
    refine XW_ret ?_
    -- outcome 2
    refine ret_ret (res1 rfl (rv_tmp rfl)) ?_
    refine hq q1 _ (Own.re (Own.mono hS2 (le_bef (bef_under (a := []) hU1 (bef_app (a := [1, 0, 1, 1]) hp)))) (by rw [Rf.stop hi2 (by omega)]))
namespace Rf
theorem fresh_len : S.fresh.rows.length = S.rows.length + 1 := by simp [fresh, draw]
theorem fresh_bads : S.bads ≤ S.fresh.bads := draw_bads _
theorem meet_bads (h : Int) : (S.meet h).bads = S.bads := by unfold meet; split <;> rfl
theorem meet_next (h : Int) : (S.meet h).next = S.next := by unfold meet; split <;> rfl
theorem shown_bad : 0 < (S.meet S.next).fresh.bads := by
  unfold fresh draw
  rw [meet_next]
  have : (S.meet S.next).isBad S.next = true := by
    unfold isBad meet
    cases h : S.issued S.next with
    | true => simp [h]
    | false => simp [shown]
  simp [this]
theorem meet_fresh : S.fresh.meet S.next = S.fresh := meet_old (by simp [fresh, issued_draw])
end Rf
theorem lawShown (d : List Int) (l : List Ca) (h : Int) (hd : d.length ≤ 1048576) (hl : l.length ≤ 1048576) (hq : Q (.bool true) H) : CW cfg [] 7 [.lst (d.map Int.enc), .lst (l.map Ca.enc), .int .u64 h] H Q := by
  have k1 := (Rf.pl_le d l).rows
  have k2 := (Rf.pl_le (d ++ [h]) l).rows
  have k3 := Rf.fresh_len (S := Rf.pl d l)
  have k4 := Rf.fresh_bads (S := Rf.pl d l)
  have k5 := Rf.shown_bad (S := Rf.pl d l)
  have k6 := ((Rf.pl_le d l).mono (show 200 ≤ 201 by omega)).rows
  have k7 := (Rf.meet_le (Rf.pl_le d l) (Rf.pl d l).next).rows
  have k8 := Rf.meet_fresh (S := Rf.pl (d ++ [h]) l)
  refine CW_pure g7 F7 rfl ?_
  have hS0 : Own [] [] (fun _ => none) [] := Own.nil
  refine XW_sr ?_
  refine OW_as rfl rfl ?_
  refine OW_nilE (e' := [_, _, _, _, _, _, _, _, _, _, _, _, _, _, _, _, _, _, _, _, _, _, _, _, _, _, _, _, _, _, _, _, _, _, _, _, _, _, _, _, _, _, _, _, _, _, _, _, _, _, _, _, _, _, _, _, _, _, _, _, _, _, _, _, _, _, _, _, _, _, _, _, _, _, _, _, _, _, _, _, _]) rfl ?_
  refine XW_sr ?_
  refine OW_mv rfl rfl ?_
  refine OW_mv rfl rfl ?_
  refine OW_fn rfl rfl (playedW hS0 (le_app (p := []) (b := [2, 0, 1])) under_nil (before_lit (ν := []) (a := [2, 0, 1]) (b := [3, 0, 1]) (by decide)) Ls.of Ls.of (by omega) (by omega) fun q1 H1 hS1 => ?_) 
  replace hS1 : Own _ _ _ ([_]) := hS1
  refine OW_env (e' := [_, _, _, _, _, _, _, _, _, _, _, _, _, _, _, _, _, _, _, _, _, _, _, _, _, _, _, _, _, _, _, _, _, _, _, _, _, _, _, _, _, _, _, _, _, _, _, _, _, _, _, _, _, _, _, _, _, _, _, _, _, _, _, _, _, _, _, _, _, _, _, _, _, _, _, _, _, _, _, _, _]) rfl ?_
  refine OW_as rfl rfl ?_
  refine OW_nilE (e' := [_, _, _, _, _, _, _, _, _, _, _, _, _, _, _, _, _, _, _, _, _, _, _, _, _, _, _, _, _, _, _, _, _, _, _, _, _, _, _, _, _, _, _, _, _, _, _, _, _, _, _, _, _, _, _, _, _, _, _, _, _, _, _, _, _, _, _, _, _, _, _, _, _, _, _, _, _, _, _, _, _]) rfl ?_
  refine XW_sr ?_
  refine OW_mv rfl rfl ?_
  refine OW_fn rfl rfl (oBad hS1 (k := 0) rfl (le_lit (ν := []) (a := [3, 0, 1]) (b := [1, 0, 1, 1]) (by decide)) under_nil (before_lit (ν := []) (a := [1, 0, 1, 1]) (b := [2, 0, 1, 1]) (by decide)) fun H2 hS2 => ?_) 
  replace hS2 : Own _ _ _ ([_]) := hS2
  refine OW_mv rfl rfl ?_
  refine OW_env (e' := [_, _, _, _, _, _, _, _, _, _, _, _, _, _, _, _, _, _, _, _, _, _, _, _, _, _, _, _, _, _, _, _, _, _, _, _, _, _, _, _, _, _, _, _, _, _, _, _, _, _, _, _, _, _, _, _, _, _, _, _, _, _, _, _, _, _, _, _, _, _, _, _, _, _, _, _, _, _, _, _, _]) rfl ?_
  refine OW_fn rfl rfl (oDrawn hS2 (k := 0) rfl (le_lit (ν := []) (a := [2, 0, 1, 1]) (b := [3, 0, 1, 1]) (by decide)) under_nil (before_lit (ν := []) (a := [3, 0, 1, 1]) (b := [4, 0, 1, 1]) (by decide)) fun H3 hS3 => ?_) 
  replace hS3 : Own _ _ _ ([_]) := hS3
  refine OW_as rfl rfl ?_
  refine OW_as rfl rfl ?_
  refine OW_nilE (e' := [_, _, _, _, _, _, _, _, _, _, _, _, _, _, _, _, _, _, _, _, _, _, _, _, _, _, _, _, _, _, _, _, _, _, _, _, _, _, _, _, _, _, _, _, _, _, _, _, _, _, _, _, _, _, _, _, _, _, _, _, _, _, _, _, _, _, _, _, _, _, _, _, _, _, _, _, _, _, _, _, _]) rfl ?_
  refine XW_sr ?_
  refine OW_mv rfl rfl ?_
  refine OW_fn rfl rfl (oFresh hS3 (k := 0) rfl (le_lit (ν := []) (a := [4, 0, 1, 1]) (b := [1, 0, 1, 1, 1]) (by decide)) under_nil (before_lit (ν := []) (a := [1, 0, 1, 1, 1]) (b := [2, 0, 1, 1, 1]) (by decide)) (by omega) fun H4 hS4 => ?_) 
  replace hS4 : Own _ _ _ ([_]) := hS4
  refine OW_as rfl rfl ?_
  refine OW_nilE (e' := [_, _, _, _, _, _, _, _, _, _, _, _, _, _, _, _, _, _, _, _, _, _, _, _, _, _, _, _, _, _, _, _, _, _, _, _, _, _, _, _, _, _, _, _, _, _, _, _, _, _, _, _, _, _, _, _, _, _, _, _, _, _, _, _, _, _, _, _, _, _, _, _, _, _, _, _, _, _, _, _, _]) rfl ?_
  refine XW_sr ?_
  refine OW_mv rfl rfl ?_
  refine OW_mv rfl rfl ?_
  refine OW_fn rfl rfl (playedW hS4 (le_lit (ν := []) (a := [2, 0, 1, 1, 1]) (b := [2, 0, 1, 1, 1, 1]) (by decide)) under_nil (before_lit (ν := []) (a := [2, 0, 1, 1, 1, 1]) (b := [3, 0, 1, 1, 1, 1]) (by decide)) Ls.of Ls.of (by omega) (by omega) fun q2 H5 hS5 => ?_) 
  replace hS5 : Own _ _ _ ([_, _]) := hS5
  refine OW_env (e' := [_, _, _, _, _, _, _, _, _, _, _, _, _, _, _, _, _, _, _, _, _, _, _, _, _, _, _, _, _, _, _, _, _, _, _, _, _, _, _, _, _, _, _, _, _, _, _, _, _, _, _, _, _, _, _, _, _, _, _, _, _, _, _, _, _, _, _, _, _, _, _, _, _, _, _, _, _, _, _, _, _]) rfl ?_
  refine OW_as rfl rfl ?_
  refine OW_nilE (e' := [_, _, _, _, _, _, _, _, _, _, _, _, _, _, _, _, _, _, _, _, _, _, _, _, _, _, _, _, _, _, _, _, _, _, _, _, _, _, _, _, _, _, _, _, _, _, _, _, _, _, _, _, _, _, _, _, _, _, _, _, _, _, _, _, _, _, _, _, _, _, _, _, _, _, _, _, _, _, _, _, _]) rfl ?_
  refine XW_sr ?_
  refine OW_mv rfl rfl ?_
  refine OW_mv rfl rfl ?_
  refine OW_fn rfl rfl (oMeet hS5 (k := 0) rfl (le_lit (ν := []) (a := [3, 0, 1, 1, 1, 1]) (b := [2, 0, 1, 1, 1, 1, 1]) (by decide)) under_nil (before_lit (ν := []) (a := [2, 0, 1, 1, 1, 1, 1]) (b := [3, 0, 1, 1, 1, 1, 1]) (by decide)) _ fun H6 hS6 => ?_) 
  replace hS6 : Own _ _ _ ([_, _]) := hS6
  refine OW_nilE (e' := [_, _, _, _, _, _, _, _, _, _, _, _, _, _, _, _, _, _, _, _, _, _, _, _, _, _, _, _, _, _, _, _, _, _, _, _, _, _, _, _, _, _, _, _, _, _, _, _, _, _, _, _, _, _, _, _, _, _, _, _, _, _, _, _, _, _, _, _, _, _, _, _, _, _, _, _, _, _, _, _, _]) rfl ?_
  refine XW_sr ?_
  refine OW_mv rfl rfl ?_
  refine OW_fn rfl rfl (oFresh hS6 (k := 0) rfl (le_lit (ν := []) (a := [3, 0, 1, 1, 1, 1, 1]) (b := [1, 0, 1, 1, 1, 1, 1, 1]) (by decide)) under_nil (before_lit (ν := []) (a := [1, 0, 1, 1, 1, 1, 1, 1]) (b := [2, 0, 1, 1, 1, 1, 1, 1]) (by decide)) (by omega) fun H7 hS7 => ?_) 
  replace hS7 : Own _ _ _ ([_, _]) := hS7
  refine OW_nilE (e' := [_, _, _, _, _, _, _, _, _, _, _, _, _, _, _, _, _, _, _, _, _, _, _, _, _, _, _, _, _, _, _, _, _, _, _, _, _, _, _, _, _, _, _, _, _, _, _, _, _, _, _, _, _, _, _, _, _, _, _, _, _, _, _, _, _, _, _, _, _, _, _, _, _, _, _, _, _, _, _, _, _]) rfl ?_
  refine XW_sr ?_
  refine OW_bs rfl rfl rfl ?_
  refine OW_mv rfl rfl ?_
  refine OW_appE hS7 (le_lit (ν := []) (a := [2, 0, 1, 1, 1, 1, 1, 1]) (b := [2, 0, 1, 1, 1, 1, 1, 1, 1]) (by decide)) under_nil rfl rfl rfl rfl rfl rfl rfl rfl (by first | rfl | exact Ls.elems (by assumption)) (by first | exact one_wide rfl | exact map_wide (fun _ => rfl) | assumption | (intro y hy; simp at hy; done)) (by first | omega | (simp only [List.length_map, List.length_append, List.length_singleton, List.length_cons, List.length_nil, List.length_take, List.length_drop]; omega) | (simp; omega)) (by decide) fun O1 H8 hS8 => ?_
  replace hS8 : Own _ _ _ ([_, _, _]) := hS8
  refine OW_env (e' := [_, _, _, _, _, _, _, _, _, _, _, _, _, _, _, _, _, _, _, _, _, _, _, _, _, _, _, _, _, _, _, _, _, _, _, _, _, _, _, _, _, _, _, _, _, _, _, _, _, _, _, _, _, _, _, _, _, _, _, _, _, _, _, _, _, _, _, _, _, _, _, _, _, _, _, _, _, _, _, _, _]) rfl ?_
  refine OW_mv rfl rfl ?_
  refine OW_bs rfl rfl (v := .lst [_]) rfl ?_
  refine OW_app hS8 (k := 0) rfl (le_lit (ν := []) (a := [3, 0, 1, 1, 1, 1, 1, 1, 1]) (b := [5, 0, 1, 1, 1, 1, 1, 1, 1]) (by decide)) under_nil rfl rfl rfl rfl rfl rfl rfl rfl (by first | rfl | exact Ls.elems (by assumption)) (by first | exact one_wide rfl | exact map_wide (fun _ => rfl) | assumption | (intro y hy; simp at hy; done)) (by first | omega | (simp only [List.length_map, List.length_append, List.length_singleton, List.length_cons, List.length_nil, List.length_take, List.length_drop]; omega) | (simp; omega)) (by decide) fun O2 H9 hS9 => ?_
  replace hS9 : Own _ _ _ ([_, _, _]) := hS9
  refine OW_env (e' := [_, _, _, _, _, _, _, _, _, _, _, _, _, _, _, _, _, _, _, _, _, _, _, _, _, _, _, _, _, _, _, _, _, _, _, _, _, _, _, _, _, _, _, _, _, _, _, _, _, _, _, _, _, _, _, _, _, _, _, _, _, _, _, _, _, _, _, _, _, _, _, _, _, _, _, _, _, _, _, _, _]) rfl ?_
  refine OW_mv rfl rfl ?_
  refine OW_fn rfl rfl (playedO hS9 (k := 0) (d := d ++ [h]) (by simp) (le_lit (ν := []) (a := [6, 0, 1, 1, 1, 1, 1, 1, 1]) (b := [7, 0, 1, 1, 1, 1, 1, 1, 1]) (by decide)) under_nil (before_lit (ν := []) (a := [7, 0, 1, 1, 1, 1, 1, 1, 1]) (b := [8, 0, 1, 1, 1, 1, 1, 1, 1]) (by decide)) Ls.of (by simp; omega) (by omega) fun q3 H10 hS10 => ?_) 
  replace hS10 : Own _ _ _ ([_, _, _, _]) := hS10
  refine OW_as rfl rfl ?_
  refine OW_nilE (e' := [_, _, _, _, _, _, _, _, _, _, _, _, _, _, _, _, _, _, _, _, _, _, _, _, _, _, _, _, _, _, _, _, _, _, _, _, _, _, _, _, _, _, _, _, _, _, _, _, _, _, _, _, _, _, _, _, _, _, _, _, _, _, _, _, _, _, _, _, _, _, _, _, _, _, _, _, _, _, _, _, _]) rfl ?_
  refine XW_sr ?_
  refine OW_mv rfl rfl ?_
  refine OW_fn rfl rfl (oFresh hS10 (k := 0) rfl (le_lit (ν := []) (a := [8, 0, 1, 1, 1, 1, 1, 1, 1]) (b := [1, 0, 1, 1, 1, 1, 1, 1, 1, 1]) (by decide)) under_nil (before_lit (ν := []) (a := [1, 0, 1, 1, 1, 1, 1, 1, 1, 1]) (b := [2, 0, 1, 1, 1, 1, 1, 1, 1, 1]) (by decide)) (by omega) fun H11 hS11 => ?_) 
  replace hS11 : Own _ _ _ ([_, _, _, _]) := hS11
  refine OW_as rfl rfl ?_
  refine OW_nilE (e' := [_, _, _, _, _, _, _, _, _, _, _, _, _, _, _, _, _, _, _, _, _, _, _, _, _, _, _, _, _, _, _, _, _, _, _, _, _, _, _, _, _, _, _, _, _, _, _, _, _, _, _, _, _, _, _, _, _, _, _, _, _, _, _, _, _, _, _, _, _, _, _, _, _, _, _, _, _, _, _, _, _]) rfl ?_
  refine XW_sr ?_
  refine OW_mv rfl rfl ?_
  refine OW_fn rfl rfl (oBad hS11 (k := 0) rfl (le_lit (ν := []) (a := [2, 0, 1, 1, 1, 1, 1, 1, 1, 1]) (b := [1, 0, 1, 1, 1, 1, 1, 1, 1, 1, 1]) (by decide)) under_nil (before_lit (ν := []) (a := [1, 0, 1, 1, 1, 1, 1, 1, 1, 1, 1]) (b := [2, 0, 1, 1, 1, 1, 1, 1, 1, 1, 1]) (by decide)) fun H12 hS12 => ?_) 
  replace hS12 : Own _ _ _ ([_, _, _, _]) := hS12
  refine OW_as rfl rfl ?_
  refine OW_nilE (e' := [_, _, _, _, _, _, _, _, _, _, _, _, _, _, _, _, _, _, _, _, _, _, _, _, _, _, _, _, _, _, _, _, _, _, _, _, _, _, _, _, _, _, _, _, _, _, _, _, _, _, _, _, _, _, _, _, _, _, _, _, _, _, _, _, _, _, _, _, _, _, _, _, _, _, _, _, _, _, _, _, _]) rfl ?_
  refine XW_sr ?_
  refine OW_mv rfl rfl ?_
  refine OW_mv rfl rfl ?_
  refine OW_fn rfl rfl (oMeet hS12 (k := 0) rfl (le_lit (ν := []) (a := [2, 0, 1, 1, 1, 1, 1, 1, 1, 1, 1]) (b := [2, 0, 1, 1, 1, 1, 1, 1, 1, 1, 1, 1]) (by decide)) under_nil (before_lit (ν := []) (a := [2, 0, 1, 1, 1, 1, 1, 1, 1, 1, 1, 1]) (b := [3, 0, 1, 1, 1, 1, 1, 1, 1, 1, 1, 1]) (by decide)) _ fun H13 hS13 => ?_) 
  replace hS13 : Own _ _ _ ([_, _, _, _]) := hS13
  refine OW_nilE (e' := [_, _, _, _, _, _, _, _, _, _, _, _, _, _, _, _, _, _, _, _, _, _, _, _, _, _, _, _, _, _, _, _, _, _, _, _, _, _, _, _, _, _, _, _, _, _, _, _, _, _, _, _, _, _, _, _, _, _, _, _, _, _, _, _, _, _, _, _, _, _, _, _, _, _, _, _, _, _, _, _, _]) rfl ?_
  refine XW_sr ?_
  refine OW_fn rfl rfl (fixedW (by kernel_rfl) ?_) 
  refine OW_mv rfl rfl ?_
  refine OW_mv rfl rfl ?_
  refine OW_env (e' := [_, _, _, _, _, _, _, _, _, _, _, _, _, _, _, _, _, _, _, _, _, _, _, _, _, _, _, _, _, _, _, _, _, _, _, _, _, _, _, _, _, _, _, _, _, _, _, _, _, _, _, _, _, _, _, _, _, _, _, _, _, _, _, _, _, _, _, _, _, _, _, _, _, _, _, _, _, _, _, _, _]) rfl ?_
  refine OW_fn rfl rfl (oDrawn hS13 (k := 3) rfl (le_lit (ν := []) (a := [3, 0, 1, 1, 1, 1, 1, 1, 1, 1, 1, 1]) (b := [3, 0, 1, 1, 1, 1, 1, 1, 1, 1, 1, 1, 1]) (by decide)) under_nil (before_lit (ν := []) (a := [3, 0, 1, 1, 1, 1, 1, 1, 1, 1, 1, 1, 1]) (b := [4, 0, 1, 1, 1, 1, 1, 1, 1, 1, 1, 1, 1]) (by decide)) fun H14 hS14 => ?_) 
  replace hS14 : Own _ _ _ ([_, _, _, _]) := hS14
  refine OW_mv rfl rfl ?_
  first
  | refine OW_bin rfl rfl rfl rfl (add_w64 (by first | omega | assumption | (simp only [ByteArray.size_append, ByteArray.size_extract, List.length_map, List.length_append, List.length_cons, List.length_nil, List.length_drop, List.length_take]; omega))) ?_
  | refine OW_bin rfl rfl rfl rfl rfl ?_
  refine OW_env (e' := [_, _, _, _, _, _, _, _, _, _, _, _, _, _, _, _, _, _, _, _, _, _, _, _, _, _, _, _, _, _, _, _, _, _, _, _, _, _, _, _, _, _, _, _, _, _, _, _, _, _, _, _, _, _, _, _, _, _, _, _, _, _, _, _, _, _, _, _, _, _, _, _, _, _, _, _, _, _, _, _, _]) rfl ?_
  refine OW_bin rfl rfl rfl rfl rfl ?_
  refine OW_pick rfl rfl rfl ?_
  refine OW_mv rfl rfl ?_
  refine OW_env (e' := [_, _, _, _, _, _, _, _, _, _, _, _, _, _, _, _, _, _, _, _, _, _, _, _, _, _, _, _, _, _, _, _, _, _, _, _, _, _, _, _, _, _, _, _, _, _, _, _, _, _, _, _, _, _, _, _, _, _, _, _, _, _, _, _, _, _, _, _, _, _, _, _, _, _, _, _, _, _, _, _, _]) rfl ?_
  refine OW_split (tt := 55) rfl (fun g11_9 => ?_) (fun g11_9 => ?_)
  · first
    | (exfalso; (try simp only [decide_eq_true_eq, decide_eq_false_iff_not, Bool.not_eq_true', Bool.not_eq_false', Bool.and_eq_true, Bool.or_eq_true, Bool.not_eq_true, Bool.not_eq_false, Decidable.not_not, bne_iff_ne, beq_iff_eq, List.length_append, List.length_cons, List.length_nil, List.length_drop, List.length_take] at g11_9) <;> (first | (exact absurd rfl g11_9) | (exact g11_9 trivial) | omega | (simp at g11_9; done)); done)
    | skip
      try simp only [decide_eq_true_eq, decide_eq_false_iff_not, Bool.not_eq_true', Bool.not_eq_false', Bool.and_eq_true, Bool.or_eq_true, Bool.not_eq_true, Bool.not_eq_false, Decidable.not_not, bne_iff_ne, beq_iff_eq, List.length_append, List.length_cons, List.length_nil, List.length_drop, List.length_take] at g11_9
      refine OW_mv rfl rfl ?_
      refine OW_un rfl rfl rfl ?_
      refine OW_env (e' := [_, _, _, _, _, _, _, _, _, _, _, _, _, _, _, _, _, _, _, _, _, _, _, _, _, _, _, _, _, _, _, _, _, _, _, _, _, _, _, _, _, _, _, _, _, _, _, _, _, _, _, _, _, _, _, _, _, _, _, _, _, _, _, _, _, _, _, _, _, _, _, _, _, _, _, _, _, _, _, _, _]) rfl ?_
      refine OW_mv rfl rfl ?_
      refine OW_split (tt := 58) rfl (fun g11_12 => ?_) (fun g11_12 => ?_)
      · first
        | (exfalso; (try simp only [decide_eq_true_eq, decide_eq_false_iff_not, Bool.not_eq_true', Bool.not_eq_false', Bool.and_eq_true, Bool.or_eq_true, Bool.not_eq_true, Bool.not_eq_false, Decidable.not_not, bne_iff_ne, beq_iff_eq, List.length_append, List.length_cons, List.length_nil, List.length_drop, List.length_take] at g11_12) <;> (first | (exact absurd rfl g11_12) | (exact g11_12 trivial) | omega | (simp at g11_12; done)); done)
        | skip
          try simp only [decide_eq_true_eq, decide_eq_false_iff_not, Bool.not_eq_true', Bool.not_eq_false', Bool.and_eq_true, Bool.or_eq_true, Bool.not_eq_true, Bool.not_eq_false, Decidable.not_not, bne_iff_ne, beq_iff_eq, List.length_append, List.length_cons, List.length_nil, List.length_drop, List.length_take] at g11_12
          refine OW_no rfl ?_
          refine OW_env (e' := [_, _, _, _, _, _, _, _, _, _, _, _, _, _, _, _, _, _, _, _, _, _, _, _, _, _, _, _, _, _, _, _, _, _, _, _, _, _, _, _, _, _, _, _, _, _, _, _, _, _, _, _, _, _, _, _, _, _, _, _, _, _, _, _, _, _, _, _, _, _, _, _, _, _, _, _, _, _, _, _, _]) rfl ?_
          refine OW_no rfl ?_
          refine OW_pick rfl rfl rfl ?_
          refine OW_pick rfl rfl rfl ?_
          refine OW_env (e' := [_, _, _, _, _, _, _, _, _, _, _, _, _, _, _, _, _, _, _, _, _, _, _, _, _, _, _, _, _, _, _, _, _, _, _, _, _, _, _, _, _, _, _, _, _, _, _, _, _, _, _, _, _, _, _, _, _, _, _, _, _, _, _, _, _, _, _, _, _, _, _, _, _, _, _, _, _, _, _, _, _]) rfl ?_
          refine OW_mv rfl rfl ?_
          refine OW_mv rfl rfl ?_
          refine OW_fn rfl rfl (oBad hS14 (k := 2) rfl (le_lit (ν := []) (a := [4, 0, 1, 1, 1, 1, 1, 1, 1, 1, 1, 1, 1]) (b := [18, 0, 1, 1, 1, 1, 1, 1, 1, 1, 1, 1, 1]) (by decide)) under_nil (before_lit (ν := []) (a := [18, 0, 1, 1, 1, 1, 1, 1, 1, 1, 1, 1, 1]) (b := [19, 0, 1, 1, 1, 1, 1, 1, 1, 1, 1, 1, 1]) (by decide)) fun H15 hS15 => ?_) 
          replace hS15 : Own _ _ _ ([_, _, _, _]) := hS15
          refine OW_env (e' := [_, _, _, _, _, _, _, _, _, _, _, _, _, _, _, _, _, _, _, _, _, _, _, _, _, _, _, _, _, _, _, _, _, _, _, _, _, _, _, _, _, _, _, _, _, _, _, _, _, _, _, _, _, _, _, _, _, _, _, _, _, _, _, _, _, _, _, _, _, _, _, _, _, _, _, _, _, _, _, _, _]) rfl ?_
          refine OW_pick rfl rfl rfl ?_
          refine OW_mv rfl rfl ?_
          refine OW_split (tt := 67) rfl (fun g11_21 => ?_) (fun g11_21 => ?_)
          · first
            | (exfalso; (try simp only [decide_eq_true_eq, decide_eq_false_iff_not, Bool.not_eq_true', Bool.not_eq_false', Bool.and_eq_true, Bool.or_eq_true, Bool.not_eq_true, Bool.not_eq_false, Decidable.not_not, bne_iff_ne, beq_iff_eq, List.length_append, List.length_cons, List.length_nil, List.length_drop, List.length_take] at g11_21) <;> (first | (exact absurd rfl g11_21) | (exact g11_21 trivial) | omega | (simp at g11_21; done)); done)
            | skip
              try simp only [decide_eq_true_eq, decide_eq_false_iff_not, Bool.not_eq_true', Bool.not_eq_false', Bool.and_eq_true, Bool.or_eq_true, Bool.not_eq_true, Bool.not_eq_false, Decidable.not_not, bne_iff_ne, beq_iff_eq, List.length_append, List.length_cons, List.length_nil, List.length_drop, List.length_take] at g11_21
              refine OW_env (e' := [_, _, _, _, _, _, _, _, _, _, _, _, _, _, _, _, _, _, _, _, _, _, _, _, _, _, _, _, _, _, _, _, _, _, _, _, _, _, _, _, _, _, _, _, _, _, _, _, _, _, _, _, _, _, _, _, _, _, _, _, _, _, _, _, _, _, _, _, _, _, _, _, _, _, _, _, _, _, _, _, _]) rfl ?_
              refine OW_mv rfl rfl ?_
              refine OW_fn rfl rfl (oBad hS15 (k := 0) rfl (le_lit (ν := []) (a := [19, 0, 1, 1, 1, 1, 1, 1, 1, 1, 1, 1, 1]) (b := [22, 0, 1, 1, 1, 1, 1, 1, 1, 1, 1, 1, 1]) (by decide)) under_nil (before_lit (ν := []) (a := [22, 0, 1, 1, 1, 1, 1, 1, 1, 1, 1, 1, 1]) (b := [23, 0, 1, 1, 1, 1, 1, 1, 1, 1, 1, 1, 1]) (by decide)) fun H16 hS16 => ?_) 
              replace hS16 : Own _ _ _ ([_, _, _, _]) := hS16
              refine OW_mv rfl rfl ?_
              refine OW_env (e' := [_, _, _, _, _, _, _, _, _, _, _, _, _, _, _, _, _, _, _, _, _, _, _, _, _, _, _, _, _, _, _, _, _, _, _, _, _, _, _, _, _, _, _, _, _, _, _, _, _, _, _, _, _, _, _, _, _, _, _, _, _, _, _, _, _, _, _, _, _, _, _, _, _, _, _, _, _, _, _, _, _]) rfl ?_
              refine OW_bin rfl rfl rfl rfl rfl ?_
              refine OW_pick rfl rfl rfl ?_
              refine OW_mv rfl rfl ?_
              refine OW_env (e' := [_, _, _, _, _, _, _, _, _, _, _, _, _, _, _, _, _, _, _, _, _, _, _, _, _, _, _, _, _, _, _, _, _, _, _, _, _, _, _, _, _, _, _, _, _, _, _, _, _, _, _, _, _, _, _, _, _, _, _, _, _, _, _, _, _, _, _, _, _, _, _, _, _, _, _, _, _, _, _, _, _]) rfl ?_
              refine OW_split (tt := 73) rfl (fun g11_27 => ?_) (fun g11_27 => ?_)
              · first
                | (exfalso; (try simp only [decide_eq_true_eq, decide_eq_false_iff_not, Bool.not_eq_true', Bool.not_eq_false', Bool.and_eq_true, Bool.or_eq_true, Bool.not_eq_true, Bool.not_eq_false, Decidable.not_not, bne_iff_ne, beq_iff_eq, List.length_append, List.length_cons, List.length_nil, List.length_drop, List.length_take] at g11_27) <;> (first | (exact absurd rfl g11_27) | (exact g11_27 trivial) | omega | (simp at g11_27; done)); done)
                | skip
                  try simp only [decide_eq_true_eq, decide_eq_false_iff_not, Bool.not_eq_true', Bool.not_eq_false', Bool.and_eq_true, Bool.or_eq_true, Bool.not_eq_true, Bool.not_eq_false, Decidable.not_not, bne_iff_ne, beq_iff_eq, List.length_append, List.length_cons, List.length_nil, List.length_drop, List.length_take] at g11_27
                  refine OW_mv rfl rfl ?_
                  refine OW_un rfl rfl rfl ?_
                  refine OW_env (e' := [_, _, _, _, _, _, _, _, _, _, _, _, _, _, _, _, _, _, _, _, _, _, _, _, _, _, _, _, _, _, _, _, _, _, _, _, _, _, _, _, _, _, _, _, _, _, _, _, _, _, _, _, _, _, _, _, _, _, _, _, _, _, _, _, _, _, _, _, _, _, _, _, _, _, _, _, _, _, _, _, _]) rfl ?_
                  refine OW_mv rfl rfl ?_
                  refine OW_split (tt := 76) rfl (fun g11_30 => ?_) (fun g11_30 => ?_)
                  · first
                    | (exfalso; (try simp only [decide_eq_true_eq, decide_eq_false_iff_not, Bool.not_eq_true', Bool.not_eq_false', Bool.and_eq_true, Bool.or_eq_true, Bool.not_eq_true, Bool.not_eq_false, Decidable.not_not, bne_iff_ne, beq_iff_eq, List.length_append, List.length_cons, List.length_nil, List.length_drop, List.length_take] at g11_30) <;> (first | (exact absurd rfl g11_30) | (exact g11_30 trivial) | omega | (simp at g11_30; done)); done)
                    | skip
                      try simp only [decide_eq_true_eq, decide_eq_false_iff_not, Bool.not_eq_true', Bool.not_eq_false', Bool.and_eq_true, Bool.or_eq_true, Bool.not_eq_true, Bool.not_eq_false, Decidable.not_not, bne_iff_ne, beq_iff_eq, List.length_append, List.length_cons, List.length_nil, List.length_drop, List.length_take] at g11_30
                      refine OW_no rfl ?_
                      refine OW_env (e' := [_, _, _, _, _, _, _, _, _, _, _, _, _, _, _, _, _, _, _, _, _, _, _, _, _, _, _, _, _, _, _, _, _, _, _, _, _, _, _, _, _, _, _, _, _, _, _, _, _, _, _, _, _, _, _, _, _, _, _, _, _, _, _, _, _, _, _, _, _, _, _, _, _, _, _, _, _, _, _, _, _]) rfl ?_
                      refine OW_no rfl ?_
                      refine OW_pick rfl rfl rfl ?_
                      refine OW_pick rfl rfl rfl ?_
                      refine OW_env (e' := [_, _, _, _, _, _, _, _, _, _, _, _, _, _, _, _, _, _, _, _, _, _, _, _, _, _, _, _, _, _, _, _, _, _, _, _, _, _, _, _, _, _, _, _, _, _, _, _, _, _, _, _, _, _, _, _, _, _, _, _, _, _, _, _, _, _, _, _, _, _, _, _, _, _, _, _, _, _, _, _, _]) rfl ?_
                      refine OW_as rfl rfl ?_
                      refine OW_nilE (e' := [_, _, _, _, _, _, _, _, _, _, _, _, _, _, _, _, _, _, _, _, _, _, _, _, _, _, _, _, _, _, _, _, _, _, _, _, _, _, _, _, _, _, _, _, _, _, _, _, _, _, _, _, _, _, _, _, _, _, _, _, _, _, _, _, _, _, _, _, _, _, _, _, _, _, _, _, _, _, _, _, _]) rfl ?_
                      refine XW_ret ?_
                      -- outcome 1
                      refine ret_ret (res1 rfl (rv_tmp rfl)) (frz1 (Q := Q) (by first | exact freeze_plain rfl | exact Ls.freeze (by assumption) | exact Ls.freeze Ls.of | exact Ls.freeze Ls.emp | exact Ls.freeze Ls.nls) ?_)
                      first
                      | exact hq
                      | (refine qcast hq ?_; rfl)
                      | (refine qcast hq ?_; simp; done)
                      | (refine qcast hq ?_; simp; omega)
                      | (refine qcast hq ?_; simp_all; done)
                  · first
                    | (exfalso; (try simp only [decide_eq_true_eq, decide_eq_false_iff_not, Bool.not_eq_true', Bool.not_eq_false', Bool.and_eq_true, Bool.or_eq_true, Bool.not_eq_true, Bool.not_eq_false, Decidable.not_not, bne_iff_ne, beq_iff_eq, List.length_append, List.length_cons, List.length_nil, List.length_drop, List.length_take] at g11_30) <;> (first | (exact absurd rfl g11_30) | (exact g11_30 trivial) | omega | (simp at g11_30; done)); done)
                    | skip
                      try simp only [decide_eq_true_eq, decide_eq_false_iff_not, Bool.not_eq_true', Bool.not_eq_false', Bool.and_eq_true, Bool.or_eq_true, Bool.not_eq_true, Bool.not_eq_false, Decidable.not_not, bne_iff_ne, beq_iff_eq, List.length_append, List.length_cons, List.length_nil, List.length_drop, List.length_take] at g11_30
                      refine OW_mv rfl rfl ?_
                      refine OW_env (e' := [_, _, _, _, _, _, _, _, _, _, _, _, _, _, _, _, _, _, _, _, _, _, _, _, _, _, _, _, _, _, _, _, _, _, _, _, _, _, _, _, _, _, _, _, _, _, _, _, _, _, _, _, _, _, _, _, _, _, _, _, _, _, _, _, _, _, _, _, _, _, _, _, _, _, _, _, _, _, _, _, _]) rfl ?_
                      refine OW_fn rfl rfl (oBad hS16 (k := 2) rfl (le_lit (ν := []) (a := [23, 0, 1, 1, 1, 1, 1, 1, 1, 1, 1, 1, 1]) (b := [31, 0, 1, 1, 1, 1, 1, 1, 1, 1, 1, 1, 1]) (by decide)) under_nil (before_lit (ν := []) (a := [31, 0, 1, 1, 1, 1, 1, 1, 1, 1, 1, 1, 1]) (b := [32, 0, 1, 1, 1, 1, 1, 1, 1, 1, 1, 1, 1]) (by decide)) fun H17 hS17 => ?_) 
                      replace hS17 : Own _ _ _ ([_, _, _, _]) := hS17
                      refine OW_pick rfl rfl rfl ?_
                      refine OW_pick rfl rfl rfl ?_
                      refine OW_env (e' := [_, _, _, _, _, _, _, _, _, _, _, _, _, _, _, _, _, _, _, _, _, _, _, _, _, _, _, _, _, _, _, _, _, _, _, _, _, _, _, _, _, _, _, _, _, _, _, _, _, _, _, _, _, _, _, _, _, _, _, _, _, _, _, _, _, _, _, _, _, _, _, _, _, _, _, _, _, _, _, _, _]) rfl ?_
                      refine OW_as rfl rfl ?_
                      refine OW_nilE (e' := [_, _, _, _, _, _, _, _, _, _, _, _, _, _, _, _, _, _, _, _, _, _, _, _, _, _, _, _, _, _, _, _, _, _, _, _, _, _, _, _, _, _, _, _, _, _, _, _, _, _, _, _, _, _, _, _, _, _, _, _, _, _, _, _, _, _, _, _, _, _, _, _, _, _, _, _, _, _, _, _, _]) rfl ?_
                      refine XW_ret ?_
                      -- outcome 2
                      refine ret_ret (res1 rfl (rv_tmp rfl)) (frz1 (Q := Q) (by first | exact freeze_plain rfl | exact Ls.freeze (by assumption) | exact Ls.freeze Ls.of | exact Ls.freeze Ls.emp | exact Ls.freeze Ls.nls) ?_)
                      first
                      | exact hq
                      | (refine qcast hq ?_; rfl)
                      | (refine qcast hq ?_; simp; done)
                      | (refine qcast hq ?_; simp; omega)
                      | (refine qcast hq ?_; simp_all; done)
              · first
                | (exfalso; (try simp only [decide_eq_true_eq, decide_eq_false_iff_not, Bool.not_eq_true', Bool.not_eq_false', Bool.and_eq_true, Bool.or_eq_true, Bool.not_eq_true, Bool.not_eq_false, Decidable.not_not, bne_iff_ne, beq_iff_eq, List.length_append, List.length_cons, List.length_nil, List.length_drop, List.length_take] at g11_27) <;> (first | (exact absurd rfl g11_27) | (exact g11_27 trivial) | omega | (simp at g11_27; done)); done)
                | skip
                  try simp only [decide_eq_true_eq, decide_eq_false_iff_not, Bool.not_eq_true', Bool.not_eq_false', Bool.and_eq_true, Bool.or_eq_true, Bool.not_eq_true, Bool.not_eq_false, Decidable.not_not, bne_iff_ne, beq_iff_eq, List.length_append, List.length_cons, List.length_nil, List.length_drop, List.length_take] at g11_27
                  refine OW_no rfl ?_
                  refine OW_no rfl ?_
                  refine OW_env (e' := [_, _, _, _, _, _, _, _, _, _, _, _, _, _, _, _, _, _, _, _, _, _, _, _, _, _, _, _, _, _, _, _, _, _, _, _, _, _, _, _, _, _, _, _, _, _, _, _, _, _, _, _, _, _, _, _, _, _, _, _, _, _, _, _, _, _, _, _, _, _, _, _, _, _, _, _, _, _, _, _, _]) rfl ?_
                  refine OW_no rfl ?_
                  refine OW_no rfl ?_
                  refine OW_no rfl ?_
                  refine OW_env (e' := [_, _, _, _, _, _, _, _, _, _, _, _, _, _, _, _, _, _, _, _, _, _, _, _, _, _, _, _, _, _, _, _, _, _, _, _, _, _, _, _, _, _, _, _, _, _, _, _, _, _, _, _, _, _, _, _, _, _, _, _, _, _, _, _, _, _, _, _, _, _, _, _, _, _, _, _, _, _, _, _, _]) rfl ?_
                  refine OW_no rfl ?_
                  refine OW_pick rfl rfl rfl ?_
                  refine OW_as rfl rfl ?_
                  refine OW_nilE (e' := [_, _, _, _, _, _, _, _, _, _, _, _, _, _, _, _, _, _, _, _, _, _, _, _, _, _, _, _, _, _, _, _, _, _, _, _, _, _, _, _, _, _, _, _, _, _, _, _, _, _, _, _, _, _, _, _, _, _, _, _, _, _, _, _, _, _, _, _, _, _, _, _, _, _, _, _, _, _, _, _, _]) rfl ?_
                  refine XW_ret ?_
                  -- outcome 3
                  refine ret_ret (res1 rfl (rv_tmp rfl)) (frz1 (Q := Q) (by first | exact freeze_plain rfl | exact Ls.freeze (by assumption) | exact Ls.freeze Ls.of | exact Ls.freeze Ls.emp | exact Ls.freeze Ls.nls) ?_)
                  first
                  | exact hq
                  | (refine qcast hq ?_; rfl)
                  | (refine qcast hq ?_; simp; done)
                  | (refine qcast hq ?_; simp; omega)
                  | (refine qcast hq ?_; simp_all; done)
          · first
            | (exfalso; (try simp only [decide_eq_true_eq, decide_eq_false_iff_not, Bool.not_eq_true', Bool.not_eq_false', Bool.and_eq_true, Bool.or_eq_true, Bool.not_eq_true, Bool.not_eq_false, Decidable.not_not, bne_iff_ne, beq_iff_eq, List.length_append, List.length_cons, List.length_nil, List.length_drop, List.length_take] at g11_21) <;> (first | (exact absurd rfl g11_21) | (exact g11_21 trivial) | omega | (simp at g11_21; done)); done)
            | skip
              try simp only [decide_eq_true_eq, decide_eq_false_iff_not, Bool.not_eq_true', Bool.not_eq_false', Bool.and_eq_true, Bool.or_eq_true, Bool.not_eq_true, Bool.not_eq_false, Decidable.not_not, bne_iff_ne, beq_iff_eq, List.length_append, List.length_cons, List.length_nil, List.length_drop, List.length_take] at g11_21
              refine OW_env (e' := [_, _, _, _, _, _, _, _, _, _, _, _, _, _, _, _, _, _, _, _, _, _, _, _, _, _, _, _, _, _, _, _, _, _, _, _, _, _, _, _, _, _, _, _, _, _, _, _, _, _, _, _, _, _, _, _, _, _, _, _, _, _, _, _, _, _, _, _, _, _, _, _, _, _, _, _, _, _, _, _, _]) rfl ?_
              refine OW_no rfl ?_
              refine OW_no rfl ?_
              refine OW_no rfl ?_
              refine OW_env (e' := [_, _, _, _, _, _, _, _, _, _, _, _, _, _, _, _, _, _, _, _, _, _, _, _, _, _, _, _, _, _, _, _, _, _, _, _, _, _, _, _, _, _, _, _, _, _, _, _, _, _, _, _, _, _, _, _, _, _, _, _, _, _, _, _, _, _, _, _, _, _, _, _, _, _, _, _, _, _, _, _, _]) rfl ?_
              refine OW_no rfl ?_
              refine OW_pick rfl rfl rfl ?_
              refine OW_mv rfl rfl ?_
              refine OW_env (e' := [_, _, _, _, _, _, _, _, _, _, _, _, _, _, _, _, _, _, _, _, _, _, _, _, _, _, _, _, _, _, _, _, _, _, _, _, _, _, _, _, _, _, _, _, _, _, _, _, _, _, _, _, _, _, _, _, _, _, _, _, _, _, _, _, _, _, _, _, _, _, _, _, _, _, _, _, _, _, _, _, _]) rfl ?_
              refine OW_no rfl ?_
              refine OW_no rfl ?_
              refine OW_no rfl ?_
              refine OW_env (e' := [_, _, _, _, _, _, _, _, _, _, _, _, _, _, _, _, _, _, _, _, _, _, _, _, _, _, _, _, _, _, _, _, _, _, _, _, _, _, _, _, _, _, _, _, _, _, _, _, _, _, _, _, _, _, _, _, _, _, _, _, _, _, _, _, _, _, _, _, _, _, _, _, _, _, _, _, _, _, _, _, _]) rfl ?_
              refine OW_no rfl ?_
              refine OW_no rfl ?_
              refine OW_no rfl ?_
              refine OW_env (e' := [_, _, _, _, _, _, _, _, _, _, _, _, _, _, _, _, _, _, _, _, _, _, _, _, _, _, _, _, _, _, _, _, _, _, _, _, _, _, _, _, _, _, _, _, _, _, _, _, _, _, _, _, _, _, _, _, _, _, _, _, _, _, _, _, _, _, _, _, _, _, _, _, _, _, _, _, _, _, _, _, _]) rfl ?_
              refine OW_pick rfl rfl rfl ?_
              refine OW_as rfl rfl ?_
              refine OW_nilE (e' := [_, _, _, _, _, _, _, _, _, _, _, _, _, _, _, _, _, _, _, _, _, _, _, _, _, _, _, _, _, _, _, _, _, _, _, _, _, _, _, _, _, _, _, _, _, _, _, _, _, _, _, _, _, _, _, _, _, _, _, _, _, _, _, _, _, _, _, _, _, _, _, _, _, _, _, _, _, _, _, _, _]) rfl ?_
              refine XW_ret ?_
              -- outcome 4
              refine ret_ret (res1 rfl (rv_tmp rfl)) (frz1 (Q := Q) (by first | exact freeze_plain rfl | exact Ls.freeze (by assumption) | exact Ls.freeze Ls.of | exact Ls.freeze Ls.emp | exact Ls.freeze Ls.nls) ?_)
              first
              | exact hq
              | (refine qcast hq ?_; rfl)
              | (refine qcast hq ?_; simp; done)
              | (refine qcast hq ?_; simp; omega)
              | (refine qcast hq ?_; simp_all; done)
      · first
        | (exfalso; (try simp only [decide_eq_true_eq, decide_eq_false_iff_not, Bool.not_eq_true', Bool.not_eq_false', Bool.and_eq_true, Bool.or_eq_true, Bool.not_eq_true, Bool.not_eq_false, Decidable.not_not, bne_iff_ne, beq_iff_eq, List.length_append, List.length_cons, List.length_nil, List.length_drop, List.length_take] at g11_12) <;> (first | (exact absurd rfl g11_12) | (exact g11_12 trivial) | omega | (simp at g11_12; done)); done)
        | skip
          try simp only [decide_eq_true_eq, decide_eq_false_iff_not, Bool.not_eq_true', Bool.not_eq_false', Bool.and_eq_true, Bool.or_eq_true, Bool.not_eq_true, Bool.not_eq_false, Decidable.not_not, bne_iff_ne, beq_iff_eq, List.length_append, List.length_cons, List.length_nil, List.length_drop, List.length_take] at g11_12
          refine OW_mv rfl rfl ?_
          refine OW_env (e' := [_, _, _, _, _, _, _, _, _, _, _, _, _, _, _, _, _, _, _, _, _, _, _, _, _, _, _, _, _, _, _, _, _, _, _, _, _, _, _, _, _, _, _, _, _, _, _, _, _, _, _, _, _, _, _, _, _, _, _, _, _, _, _, _, _, _, _, _, _, _, _, _, _, _, _, _, _, _, _, _, _]) rfl ?_
          refine OW_fn rfl rfl (oBad hS14 (k := 3) rfl (le_lit (ν := []) (a := [4, 0, 1, 1, 1, 1, 1, 1, 1, 1, 1, 1, 1]) (b := [13, 0, 1, 1, 1, 1, 1, 1, 1, 1, 1, 1, 1]) (by decide)) under_nil (before_lit (ν := []) (a := [13, 0, 1, 1, 1, 1, 1, 1, 1, 1, 1, 1, 1]) (b := [14, 0, 1, 1, 1, 1, 1, 1, 1, 1, 1, 1, 1]) (by decide)) fun H18 hS18 => ?_) 
          replace hS18 : Own _ _ _ ([_, _, _, _]) := hS18
          refine OW_pick rfl rfl rfl ?_
          refine OW_pick rfl rfl rfl ?_
          refine OW_env (e' := [_, _, _, _, _, _, _, _, _, _, _, _, _, _, _, _, _, _, _, _, _, _, _, _, _, _, _, _, _, _, _, _, _, _, _, _, _, _, _, _, _, _, _, _, _, _, _, _, _, _, _, _, _, _, _, _, _, _, _, _, _, _, _, _, _, _, _, _, _, _, _, _, _, _, _, _, _, _, _, _, _]) rfl ?_
          refine OW_mv rfl rfl ?_
          refine OW_split (tt := 63) rfl (fun g11_17 => ?_) (fun g11_17 => ?_)
          · first
            | (exfalso; (try simp only [decide_eq_true_eq, decide_eq_false_iff_not, Bool.not_eq_true', Bool.not_eq_false', Bool.and_eq_true, Bool.or_eq_true, Bool.not_eq_true, Bool.not_eq_false, Decidable.not_not, bne_iff_ne, beq_iff_eq, List.length_append, List.length_cons, List.length_nil, List.length_drop, List.length_take] at g11_17) <;> (first | (exact absurd rfl g11_17) | (exact g11_17 trivial) | omega | (simp at g11_17; done)); done)
            | skip
              try simp only [decide_eq_true_eq, decide_eq_false_iff_not, Bool.not_eq_true', Bool.not_eq_false', Bool.and_eq_true, Bool.or_eq_true, Bool.not_eq_true, Bool.not_eq_false, Decidable.not_not, bne_iff_ne, beq_iff_eq, List.length_append, List.length_cons, List.length_nil, List.length_drop, List.length_take] at g11_17
              refine OW_mv rfl rfl ?_
              refine OW_env (e' := [_, _, _, _, _, _, _, _, _, _, _, _, _, _, _, _, _, _, _, _, _, _, _, _, _, _, _, _, _, _, _, _, _, _, _, _, _, _, _, _, _, _, _, _, _, _, _, _, _, _, _, _, _, _, _, _, _, _, _, _, _, _, _, _, _, _, _, _, _, _, _, _, _, _, _, _, _, _, _, _, _]) rfl ?_
              refine OW_fn rfl rfl (oBad hS18 (k := 2) rfl (le_lit (ν := []) (a := [14, 0, 1, 1, 1, 1, 1, 1, 1, 1, 1, 1, 1]) (b := [18, 0, 1, 1, 1, 1, 1, 1, 1, 1, 1, 1, 1]) (by decide)) under_nil (before_lit (ν := []) (a := [18, 0, 1, 1, 1, 1, 1, 1, 1, 1, 1, 1, 1]) (b := [19, 0, 1, 1, 1, 1, 1, 1, 1, 1, 1, 1, 1]) (by decide)) fun H19 hS19 => ?_) 
              replace hS19 : Own _ _ _ ([_, _, _, _]) := hS19
              refine OW_pick rfl rfl rfl ?_
              refine OW_mv rfl rfl ?_
              refine OW_env (e' := [_, _, _, _, _, _, _, _, _, _, _, _, _, _, _, _, _, _, _, _, _, _, _, _, _, _, _, _, _, _, _, _, _, _, _, _, _, _, _, _, _, _, _, _, _, _, _, _, _, _, _, _, _, _, _, _, _, _, _, _, _, _, _, _, _, _, _, _, _, _, _, _, _, _, _, _, _, _, _, _, _]) rfl ?_
              refine OW_split (tt := 67) rfl (fun g11_21 => ?_) (fun g11_21 => ?_)
              · first
                | (exfalso; (try simp only [decide_eq_true_eq, decide_eq_false_iff_not, Bool.not_eq_true', Bool.not_eq_false', Bool.and_eq_true, Bool.or_eq_true, Bool.not_eq_true, Bool.not_eq_false, Decidable.not_not, bne_iff_ne, beq_iff_eq, List.length_append, List.length_cons, List.length_nil, List.length_drop, List.length_take] at g11_21) <;> (first | (exact absurd rfl g11_21) | (exact g11_21 trivial) | omega | (simp at g11_21; done)); done)
                | skip
                  try simp only [decide_eq_true_eq, decide_eq_false_iff_not, Bool.not_eq_true', Bool.not_eq_false', Bool.and_eq_true, Bool.or_eq_true, Bool.not_eq_true, Bool.not_eq_false, Decidable.not_not, bne_iff_ne, beq_iff_eq, List.length_append, List.length_cons, List.length_nil, List.length_drop, List.length_take] at g11_21
                  refine OW_mv rfl rfl ?_
                  refine OW_fn rfl rfl (oBad hS19 (k := 0) rfl (le_lit (ν := []) (a := [19, 0, 1, 1, 1, 1, 1, 1, 1, 1, 1, 1, 1]) (b := [22, 0, 1, 1, 1, 1, 1, 1, 1, 1, 1, 1, 1]) (by decide)) under_nil (before_lit (ν := []) (a := [22, 0, 1, 1, 1, 1, 1, 1, 1, 1, 1, 1, 1]) (b := [23, 0, 1, 1, 1, 1, 1, 1, 1, 1, 1, 1, 1]) (by decide)) fun H20 hS20 => ?_) 
                  replace hS20 : Own _ _ _ ([_, _, _, _]) := hS20
                  refine OW_env (e' := [_, _, _, _, _, _, _, _, _, _, _, _, _, _, _, _, _, _, _, _, _, _, _, _, _, _, _, _, _, _, _, _, _, _, _, _, _, _, _, _, _, _, _, _, _, _, _, _, _, _, _, _, _, _, _, _, _, _, _, _, _, _, _, _, _, _, _, _, _, _, _, _, _, _, _, _, _, _, _, _, _]) rfl ?_
                  refine OW_mv rfl rfl ?_
                  refine OW_bin rfl rfl rfl rfl rfl ?_
                  refine OW_pick rfl rfl rfl ?_
                  refine OW_env (e' := [_, _, _, _, _, _, _, _, _, _, _, _, _, _, _, _, _, _, _, _, _, _, _, _, _, _, _, _, _, _, _, _, _, _, _, _, _, _, _, _, _, _, _, _, _, _, _, _, _, _, _, _, _, _, _, _, _, _, _, _, _, _, _, _, _, _, _, _, _, _, _, _, _, _, _, _, _, _, _, _, _]) rfl ?_
                  refine OW_mv rfl rfl ?_
                  refine OW_split (tt := 73) rfl (fun g11_27 => ?_) (fun g11_27 => ?_)
                  · first
                    | (exfalso; (try simp only [decide_eq_true_eq, decide_eq_false_iff_not, Bool.not_eq_true', Bool.not_eq_false', Bool.and_eq_true, Bool.or_eq_true, Bool.not_eq_true, Bool.not_eq_false, Decidable.not_not, bne_iff_ne, beq_iff_eq, List.length_append, List.length_cons, List.length_nil, List.length_drop, List.length_take] at g11_27) <;> (first | (exact absurd rfl g11_27) | (exact g11_27 trivial) | omega | (simp at g11_27; done)); done)
                    | skip
                      try simp only [decide_eq_true_eq, decide_eq_false_iff_not, Bool.not_eq_true', Bool.not_eq_false', Bool.and_eq_true, Bool.or_eq_true, Bool.not_eq_true, Bool.not_eq_false, Decidable.not_not, bne_iff_ne, beq_iff_eq, List.length_append, List.length_cons, List.length_nil, List.length_drop, List.length_take] at g11_27
                      refine OW_mv rfl rfl ?_
                      refine OW_env (e' := [_, _, _, _, _, _, _, _, _, _, _, _, _, _, _, _, _, _, _, _, _, _, _, _, _, _, _, _, _, _, _, _, _, _, _, _, _, _, _, _, _, _, _, _, _, _, _, _, _, _, _, _, _, _, _, _, _, _, _, _, _, _, _, _, _, _, _, _, _, _, _, _, _, _, _, _, _, _, _, _, _]) rfl ?_
                      refine OW_un rfl rfl rfl ?_
                      refine OW_mv rfl rfl ?_
                      refine OW_split (tt := 76) rfl (fun g11_30 => ?_) (fun g11_30 => ?_)
                      · first
                        | (exfalso; (try simp only [decide_eq_true_eq, decide_eq_false_iff_not, Bool.not_eq_true', Bool.not_eq_false', Bool.and_eq_true, Bool.or_eq_true, Bool.not_eq_true, Bool.not_eq_false, Decidable.not_not, bne_iff_ne, beq_iff_eq, List.length_append, List.length_cons, List.length_nil, List.length_drop, List.length_take] at g11_30) <;> (first | (exact absurd rfl g11_30) | (exact g11_30 trivial) | omega | (simp at g11_30; done)); done)
                        | skip
                          try simp only [decide_eq_true_eq, decide_eq_false_iff_not, Bool.not_eq_true', Bool.not_eq_false', Bool.and_eq_true, Bool.or_eq_true, Bool.not_eq_true, Bool.not_eq_false, Decidable.not_not, bne_iff_ne, beq_iff_eq, List.length_append, List.length_cons, List.length_nil, List.length_drop, List.length_take] at g11_30
                          refine OW_env (e' := [_, _, _, _, _, _, _, _, _, _, _, _, _, _, _, _, _, _, _, _, _, _, _, _, _, _, _, _, _, _, _, _, _, _, _, _, _, _, _, _, _, _, _, _, _, _, _, _, _, _, _, _, _, _, _, _, _, _, _, _, _, _, _, _, _, _, _, _, _, _, _, _, _, _, _, _, _, _, _, _, _]) rfl ?_
                          refine OW_no rfl ?_
                          refine OW_no rfl ?_
                          refine OW_pick rfl rfl rfl ?_
                          refine OW_env (e' := [_, _, _, _, _, _, _, _, _, _, _, _, _, _, _, _, _, _, _, _, _, _, _, _, _, _, _, _, _, _, _, _, _, _, _, _, _, _, _, _, _, _, _, _, _, _, _, _, _, _, _, _, _, _, _, _, _, _, _, _, _, _, _, _, _, _, _, _, _, _, _, _, _, _, _, _, _, _, _, _, _]) rfl ?_
                          refine OW_pick rfl rfl rfl ?_
                          refine OW_as rfl rfl ?_
                          refine OW_nilE (e' := [_, _, _, _, _, _, _, _, _, _, _, _, _, _, _, _, _, _, _, _, _, _, _, _, _, _, _, _, _, _, _, _, _, _, _, _, _, _, _, _, _, _, _, _, _, _, _, _, _, _, _, _, _, _, _, _, _, _, _, _, _, _, _, _, _, _, _, _, _, _, _, _, _, _, _, _, _, _, _, _, _]) rfl ?_
                          refine XW_ret ?_
                          -- outcome 5
                          refine ret_ret (res1 rfl (rv_tmp rfl)) (frz1 (Q := Q) (by first | exact freeze_plain rfl | exact Ls.freeze (by assumption) | exact Ls.freeze Ls.of | exact Ls.freeze Ls.emp | exact Ls.freeze Ls.nls) ?_)
                          first
                          | exact hq
                          | (refine qcast hq ?_; rfl)
                          | (refine qcast hq ?_; simp; done)
                          | (refine qcast hq ?_; simp; omega)
                          | (refine qcast hq ?_; simp_all; done)
                      · first
                        | (exfalso; (try simp only [decide_eq_true_eq, decide_eq_false_iff_not, Bool.not_eq_true', Bool.not_eq_false', Bool.and_eq_true, Bool.or_eq_true, Bool.not_eq_true, Bool.not_eq_false, Decidable.not_not, bne_iff_ne, beq_iff_eq, List.length_append, List.length_cons, List.length_nil, List.length_drop, List.length_take] at g11_30) <;> (first | (exact absurd rfl g11_30) | (exact g11_30 trivial) | omega | (simp at g11_30; done)); done)
                        | skip
                          try simp only [decide_eq_true_eq, decide_eq_false_iff_not, Bool.not_eq_true', Bool.not_eq_false', Bool.and_eq_true, Bool.or_eq_true, Bool.not_eq_true, Bool.not_eq_false, Decidable.not_not, bne_iff_ne, beq_iff_eq, List.length_append, List.length_cons, List.length_nil, List.length_drop, List.length_take] at g11_30
                          refine OW_env (e' := [_, _, _, _, _, _, _, _, _, _, _, _, _, _, _, _, _, _, _, _, _, _, _, _, _, _, _, _, _, _, _, _, _, _, _, _, _, _, _, _, _, _, _, _, _, _, _, _, _, _, _, _, _, _, _, _, _, _, _, _, _, _, _, _, _, _, _, _, _, _, _, _, _, _, _, _, _, _, _, _, _]) rfl ?_
                          refine OW_mv rfl rfl ?_
                          refine OW_fn rfl rfl (oBad hS20 (k := 2) rfl (le_lit (ν := []) (a := [23, 0, 1, 1, 1, 1, 1, 1, 1, 1, 1, 1, 1]) (b := [31, 0, 1, 1, 1, 1, 1, 1, 1, 1, 1, 1, 1]) (by decide)) under_nil (before_lit (ν := []) (a := [31, 0, 1, 1, 1, 1, 1, 1, 1, 1, 1, 1, 1]) (b := [32, 0, 1, 1, 1, 1, 1, 1, 1, 1, 1, 1, 1]) (by decide)) fun H21 hS21 => ?_) 
                          replace hS21 : Own _ _ _ ([_, _, _, _]) := hS21
                          refine OW_pick rfl rfl rfl ?_
                          refine OW_env (e' := [_, _, _, _, _, _, _, _, _, _, _, _, _, _, _, _, _, _, _, _, _, _, _, _, _, _, _, _, _, _, _, _, _, _, _, _, _, _, _, _, _, _, _, _, _, _, _, _, _, _, _, _, _, _, _, _, _, _, _, _, _, _, _, _, _, _, _, _, _, _, _, _, _, _, _, _, _, _, _, _, _]) rfl ?_
                          refine OW_pick rfl rfl rfl ?_
                          refine OW_as rfl rfl ?_
                          refine OW_nilE (e' := [_, _, _, _, _, _, _, _, _, _, _, _, _, _, _, _, _, _, _, _, _, _, _, _, _, _, _, _, _, _, _, _, _, _, _, _, _, _, _, _, _, _, _, _, _, _, _, _, _, _, _, _, _, _, _, _, _, _, _, _, _, _, _, _, _, _, _, _, _, _, _, _, _, _, _, _, _, _, _, _, _]) rfl ?_
                          refine XW_ret ?_
                          -- outcome 6
                          refine ret_ret (res1 rfl (rv_tmp rfl)) (frz1 (Q := Q) (by first | exact freeze_plain rfl | exact Ls.freeze (by assumption) | exact Ls.freeze Ls.of | exact Ls.freeze Ls.emp | exact Ls.freeze Ls.nls) ?_)
                          first
                          | exact hq
                          | (refine qcast hq ?_; rfl)
                          | (refine qcast hq ?_; simp; done)
                          | (refine qcast hq ?_; simp; omega)
                          | (refine qcast hq ?_; simp_all; done)
                  · first
                    | (exfalso; (try simp only [decide_eq_true_eq, decide_eq_false_iff_not, Bool.not_eq_true', Bool.not_eq_false', Bool.and_eq_true, Bool.or_eq_true, Bool.not_eq_true, Bool.not_eq_false, Decidable.not_not, bne_iff_ne, beq_iff_eq, List.length_append, List.length_cons, List.length_nil, List.length_drop, List.length_take] at g11_27) <;> (first | (exact absurd rfl g11_27) | (exact g11_27 trivial) | omega | (simp at g11_27; done)); done)
                    | skip
                      try simp only [decide_eq_true_eq, decide_eq_false_iff_not, Bool.not_eq_true', Bool.not_eq_false', Bool.and_eq_true, Bool.or_eq_true, Bool.not_eq_true, Bool.not_eq_false, Decidable.not_not, bne_iff_ne, beq_iff_eq, List.length_append, List.length_cons, List.length_nil, List.length_drop, List.length_take] at g11_27
                      refine OW_no rfl ?_
                      refine OW_env (e' := [_, _, _, _, _, _, _, _, _, _, _, _, _, _, _, _, _, _, _, _, _, _, _, _, _, _, _, _, _, _, _, _, _, _, _, _, _, _, _, _, _, _, _, _, _, _, _, _, _, _, _, _, _, _, _, _, _, _, _, _, _, _, _, _, _, _, _, _, _, _, _, _, _, _, _, _, _, _, _, _, _]) rfl ?_
                      refine OW_no rfl ?_
                      refine OW_no rfl ?_
                      refine OW_no rfl ?_
                      refine OW_env (e' := [_, _, _, _, _, _, _, _, _, _, _, _, _, _, _, _, _, _, _, _, _, _, _, _, _, _, _, _, _, _, _, _, _, _, _, _, _, _, _, _, _, _, _, _, _, _, _, _, _, _, _, _, _, _, _, _, _, _, _, _, _, _, _, _, _, _, _, _, _, _, _, _, _, _, _, _, _, _, _, _, _]) rfl ?_
                      refine OW_no rfl ?_
                      refine OW_no rfl ?_
                      refine OW_pick rfl rfl rfl ?_
                      refine OW_env (e' := [_, _, _, _, _, _, _, _, _, _, _, _, _, _, _, _, _, _, _, _, _, _, _, _, _, _, _, _, _, _, _, _, _, _, _, _, _, _, _, _, _, _, _, _, _, _, _, _, _, _, _, _, _, _, _, _, _, _, _, _, _, _, _, _, _, _, _, _, _, _, _, _, _, _, _, _, _, _, _, _, _]) rfl ?_
                      refine OW_as rfl rfl ?_
                      refine OW_nilE (e' := [_, _, _, _, _, _, _, _, _, _, _, _, _, _, _, _, _, _, _, _, _, _, _, _, _, _, _, _, _, _, _, _, _, _, _, _, _, _, _, _, _, _, _, _, _, _, _, _, _, _, _, _, _, _, _, _, _, _, _, _, _, _, _, _, _, _, _, _, _, _, _, _, _, _, _, _, _, _, _, _, _]) rfl ?_
                      refine XW_ret ?_
                      -- outcome 7
                      refine ret_ret (res1 rfl (rv_tmp rfl)) (frz1 (Q := Q) (by first | exact freeze_plain rfl | exact Ls.freeze (by assumption) | exact Ls.freeze Ls.of | exact Ls.freeze Ls.emp | exact Ls.freeze Ls.nls) ?_)
                      first
                      | exact hq
                      | (refine qcast hq ?_; rfl)
                      | (refine qcast hq ?_; simp; done)
                      | (refine qcast hq ?_; simp; omega)
                      | (refine qcast hq ?_; simp_all; done)
              · first
                | (exfalso; (try simp only [decide_eq_true_eq, decide_eq_false_iff_not, Bool.not_eq_true', Bool.not_eq_false', Bool.and_eq_true, Bool.or_eq_true, Bool.not_eq_true, Bool.not_eq_false, Decidable.not_not, bne_iff_ne, beq_iff_eq, List.length_append, List.length_cons, List.length_nil, List.length_drop, List.length_take] at g11_21) <;> (first | (exact absurd rfl g11_21) | (exact g11_21 trivial) | omega | (simp at g11_21; done)); done)
                | skip
                  try simp only [decide_eq_true_eq, decide_eq_false_iff_not, Bool.not_eq_true', Bool.not_eq_false', Bool.and_eq_true, Bool.or_eq_true, Bool.not_eq_true, Bool.not_eq_false, Decidable.not_not, bne_iff_ne, beq_iff_eq, List.length_append, List.length_cons, List.length_nil, List.length_drop, List.length_take] at g11_21
                  refine OW_no rfl ?_
                  refine OW_no rfl ?_
                  refine OW_env (e' := [_, _, _, _, _, _, _, _, _, _, _, _, _, _, _, _, _, _, _, _, _, _, _, _, _, _, _, _, _, _, _, _, _, _, _, _, _, _, _, _, _, _, _, _, _, _, _, _, _, _, _, _, _, _, _, _, _, _, _, _, _, _, _, _, _, _, _, _, _, _, _, _, _, _, _, _, _, _, _, _, _]) rfl ?_
                  refine OW_no rfl ?_
                  refine OW_no rfl ?_
                  refine OW_pick rfl rfl rfl ?_
                  refine OW_env (e' := [_, _, _, _, _, _, _, _, _, _, _, _, _, _, _, _, _, _, _, _, _, _, _, _, _, _, _, _, _, _, _, _, _, _, _, _, _, _, _, _, _, _, _, _, _, _, _, _, _, _, _, _, _, _, _, _, _, _, _, _, _, _, _, _, _, _, _, _, _, _, _, _, _, _, _, _, _, _, _, _, _]) rfl ?_
                  refine OW_mv rfl rfl ?_
                  refine OW_no rfl ?_
                  refine OW_no rfl ?_
                  refine OW_env (e' := [_, _, _, _, _, _, _, _, _, _, _, _, _, _, _, _, _, _, _, _, _, _, _, _, _, _, _, _, _, _, _, _, _, _, _, _, _, _, _, _, _, _, _, _, _, _, _, _, _, _, _, _, _, _, _, _, _, _, _, _, _, _, _, _, _, _, _, _, _, _, _, _, _, _, _, _, _, _, _, _, _]) rfl ?_
                  refine OW_no rfl ?_
                  refine OW_no rfl ?_
                  refine OW_no rfl ?_
                  refine OW_env (e' := [_, _, _, _, _, _, _, _, _, _, _, _, _, _, _, _, _, _, _, _, _, _, _, _, _, _, _, _, _, _, _, _, _, _, _, _, _, _, _, _, _, _, _, _, _, _, _, _, _, _, _, _, _, _, _, _, _, _, _, _, _, _, _, _, _, _, _, _, _, _, _, _, _, _, _, _, _, _, _, _, _]) rfl ?_
                  refine OW_no rfl ?_
                  refine OW_pick rfl rfl rfl ?_
                  refine OW_as rfl rfl ?_
                  refine OW_nilE (e' := [_, _, _, _, _, _, _, _, _, _, _, _, _, _, _, _, _, _, _, _, _, _, _, _, _, _, _, _, _, _, _, _, _, _, _, _, _, _, _, _, _, _, _, _, _, _, _, _, _, _, _, _, _, _, _, _, _, _, _, _, _, _, _, _, _, _, _, _, _, _, _, _, _, _, _, _, _, _, _, _, _]) rfl ?_
                  refine XW_ret ?_
                  -- outcome 8
                  refine ret_ret (res1 rfl (rv_tmp rfl)) (frz1 (Q := Q) (by first | exact freeze_plain rfl | exact Ls.freeze (by assumption) | exact Ls.freeze Ls.of | exact Ls.freeze Ls.emp | exact Ls.freeze Ls.nls) ?_)
                  first
                  | exact hq
                  | (refine qcast hq ?_; rfl)
                  | (refine qcast hq ?_; simp; done)
                  | (refine qcast hq ?_; simp; omega)
                  | (refine qcast hq ?_; simp_all; done)
          · first
            | (exfalso; (try simp only [decide_eq_true_eq, decide_eq_false_iff_not, Bool.not_eq_true', Bool.not_eq_false', Bool.and_eq_true, Bool.or_eq_true, Bool.not_eq_true, Bool.not_eq_false, Decidable.not_not, bne_iff_ne, beq_iff_eq, List.length_append, List.length_cons, List.length_nil, List.length_drop, List.length_take] at g11_17) <;> (first | (exact absurd rfl g11_17) | (exact g11_17 trivial) | omega | (simp at g11_17; done)); done)
            | skip
              try simp only [decide_eq_true_eq, decide_eq_false_iff_not, Bool.not_eq_true', Bool.not_eq_false', Bool.and_eq_true, Bool.or_eq_true, Bool.not_eq_true, Bool.not_eq_false, Decidable.not_not, bne_iff_ne, beq_iff_eq, List.length_append, List.length_cons, List.length_nil, List.length_drop, List.length_take] at g11_17
              refine OW_no rfl ?_
              refine OW_env (e' := [_, _, _, _, _, _, _, _, _, _, _, _, _, _, _, _, _, _, _, _, _, _, _, _, _, _, _, _, _, _, _, _, _, _, _, _, _, _, _, _, _, _, _, _, _, _, _, _, _, _, _, _, _, _, _, _, _, _, _, _, _, _, _, _, _, _, _, _, _, _, _, _, _, _, _, _, _, _, _, _, _]) rfl ?_
              refine OW_no rfl ?_
              refine OW_pick rfl rfl rfl ?_
              refine OW_mv rfl rfl ?_
              refine OW_env (e' := [_, _, _, _, _, _, _, _, _, _, _, _, _, _, _, _, _, _, _, _, _, _, _, _, _, _, _, _, _, _, _, _, _, _, _, _, _, _, _, _, _, _, _, _, _, _, _, _, _, _, _, _, _, _, _, _, _, _, _, _, _, _, _, _, _, _, _, _, _, _, _, _, _, _, _, _, _, _, _, _, _]) rfl ?_
              refine OW_no rfl ?_
              refine OW_no rfl ?_
              refine OW_no rfl ?_
              refine OW_env (e' := [_, _, _, _, _, _, _, _, _, _, _, _, _, _, _, _, _, _, _, _, _, _, _, _, _, _, _, _, _, _, _, _, _, _, _, _, _, _, _, _, _, _, _, _, _, _, _, _, _, _, _, _, _, _, _, _, _, _, _, _, _, _, _, _, _, _, _, _, _, _, _, _, _, _, _, _, _, _, _, _, _]) rfl ?_
              refine OW_no rfl ?_
              refine OW_pick rfl rfl rfl ?_
              refine OW_mv rfl rfl ?_
              refine OW_env (e' := [_, _, _, _, _, _, _, _, _, _, _, _, _, _, _, _, _, _, _, _, _, _, _, _, _, _, _, _, _, _, _, _, _, _, _, _, _, _, _, _, _, _, _, _, _, _, _, _, _, _, _, _, _, _, _, _, _, _, _, _, _, _, _, _, _, _, _, _, _, _, _, _, _, _, _, _, _, _, _, _, _]) rfl ?_
              refine OW_no rfl ?_
              refine OW_no rfl ?_
              refine OW_no rfl ?_
              refine OW_env (e' := [_, _, _, _, _, _, _, _, _, _, _, _, _, _, _, _, _, _, _, _, _, _, _, _, _, _, _, _, _, _, _, _, _, _, _, _, _, _, _, _, _, _, _, _, _, _, _, _, _, _, _, _, _, _, _, _, _, _, _, _, _, _, _, _, _, _, _, _, _, _, _, _, _, _, _, _, _, _, _, _, _]) rfl ?_
              refine OW_no rfl ?_
              refine OW_no rfl ?_
              refine OW_no rfl ?_
              refine OW_env (e' := [_, _, _, _, _, _, _, _, _, _, _, _, _, _, _, _, _, _, _, _, _, _, _, _, _, _, _, _, _, _, _, _, _, _, _, _, _, _, _, _, _, _, _, _, _, _, _, _, _, _, _, _, _, _, _, _, _, _, _, _, _, _, _, _, _, _, _, _, _, _, _, _, _, _, _, _, _, _, _, _, _]) rfl ?_
              refine OW_pick rfl rfl rfl ?_
              refine OW_as rfl rfl ?_
              refine OW_nilE (e' := [_, _, _, _, _, _, _, _, _, _, _, _, _, _, _, _, _, _, _, _, _, _, _, _, _, _, _, _, _, _, _, _, _, _, _, _, _, _, _, _, _, _, _, _, _, _, _, _, _, _, _, _, _, _, _, _, _, _, _, _, _, _, _, _, _, _, _, _, _, _, _, _, _, _, _, _, _, _, _, _, _]) rfl ?_
              refine XW_ret ?_
              -- outcome 9
              refine ret_ret (res1 rfl (rv_tmp rfl)) (frz1 (Q := Q) (by first | exact freeze_plain rfl | exact Ls.freeze (by assumption) | exact Ls.freeze Ls.of | exact Ls.freeze Ls.emp | exact Ls.freeze Ls.nls) ?_)
              first
              | exact hq
              | (refine qcast hq ?_; rfl)
              | (refine qcast hq ?_; simp; done)
              | (refine qcast hq ?_; simp; omega)
              | (refine qcast hq ?_; simp_all; done)
  · first
    | (exfalso; (try simp only [decide_eq_true_eq, decide_eq_false_iff_not, Bool.not_eq_true', Bool.not_eq_false', Bool.and_eq_true, Bool.or_eq_true, Bool.not_eq_true, Bool.not_eq_false, Decidable.not_not, bne_iff_ne, beq_iff_eq, List.length_append, List.length_cons, List.length_nil, List.length_drop, List.length_take] at g11_9) <;> (first | (exact absurd rfl g11_9) | (exact g11_9 trivial) | omega | (simp at g11_9; done)); done)
    | skip
      try simp only [decide_eq_true_eq, decide_eq_false_iff_not, Bool.not_eq_true', Bool.not_eq_false', Bool.and_eq_true, Bool.or_eq_true, Bool.not_eq_true, Bool.not_eq_false, Decidable.not_not, bne_iff_ne, beq_iff_eq, List.length_append, List.length_cons, List.length_nil, List.length_drop, List.length_take] at g11_9
      refine OW_no rfl ?_
      refine OW_no rfl ?_
      refine OW_env (e' := [_, _, _, _, _, _, _, _, _, _, _, _, _, _, _, _, _, _, _, _, _, _, _, _, _, _, _, _, _, _, _, _, _, _, _, _, _, _, _, _, _, _, _, _, _, _, _, _, _, _, _, _, _, _, _, _, _, _, _, _, _, _, _, _, _, _, _, _, _, _, _, _, _, _, _, _, _, _, _, _, _]) rfl ?_
      refine OW_no rfl ?_
      refine OW_no rfl ?_
      refine OW_no rfl ?_
      refine OW_env (e' := [_, _, _, _, _, _, _, _, _, _, _, _, _, _, _, _, _, _, _, _, _, _, _, _, _, _, _, _, _, _, _, _, _, _, _, _, _, _, _, _, _, _, _, _, _, _, _, _, _, _, _, _, _, _, _, _, _, _, _, _, _, _, _, _, _, _, _, _, _, _, _, _, _, _, _, _, _, _, _, _, _]) rfl ?_
      refine OW_no rfl ?_
      refine OW_pick rfl rfl rfl ?_
      refine OW_mv rfl rfl ?_
      refine OW_env (e' := [_, _, _, _, _, _, _, _, _, _, _, _, _, _, _, _, _, _, _, _, _, _, _, _, _, _, _, _, _, _, _, _, _, _, _, _, _, _, _, _, _, _, _, _, _, _, _, _, _, _, _, _, _, _, _, _, _, _, _, _, _, _, _, _, _, _, _, _, _, _, _, _, _, _, _, _, _, _, _, _, _]) rfl ?_
      refine OW_no rfl ?_
      refine OW_no rfl ?_
      refine OW_pick rfl rfl rfl ?_
      refine OW_env (e' := [_, _, _, _, _, _, _, _, _, _, _, _, _, _, _, _, _, _, _, _, _, _, _, _, _, _, _, _, _, _, _, _, _, _, _, _, _, _, _, _, _, _, _, _, _, _, _, _, _, _, _, _, _, _, _, _, _, _, _, _, _, _, _, _, _, _, _, _, _, _, _, _, _, _, _, _, _, _, _, _, _]) rfl ?_
      refine OW_mv rfl rfl ?_
      refine OW_no rfl ?_
      refine OW_no rfl ?_
      refine OW_env (e' := [_, _, _, _, _, _, _, _, _, _, _, _, _, _, _, _, _, _, _, _, _, _, _, _, _, _, _, _, _, _, _, _, _, _, _, _, _, _, _, _, _, _, _, _, _, _, _, _, _, _, _, _, _, _, _, _, _, _, _, _, _, _, _, _, _, _, _, _, _, _, _, _, _, _, _, _, _, _, _, _, _]) rfl ?_
      refine OW_no rfl ?_
      refine OW_no rfl ?_
      refine OW_pick rfl rfl rfl ?_
      refine OW_env (e' := [_, _, _, _, _, _, _, _, _, _, _, _, _, _, _, _, _, _, _, _, _, _, _, _, _, _, _, _, _, _, _, _, _, _, _, _, _, _, _, _, _, _, _, _, _, _, _, _, _, _, _, _, _, _, _, _, _, _, _, _, _, _, _, _, _, _, _, _, _, _, _, _, _, _, _, _, _, _, _, _, _]) rfl ?_
      refine OW_mv rfl rfl ?_
      refine OW_no rfl ?_
      refine OW_no rfl ?_
      refine OW_env (e' := [_, _, _, _, _, _, _, _, _, _, _, _, _, _, _, _, _, _, _, _, _, _, _, _, _, _, _, _, _, _, _, _, _, _, _, _, _, _, _, _, _, _, _, _, _, _, _, _, _, _, _, _, _, _, _, _, _, _, _, _, _, _, _, _, _, _, _, _, _, _, _, _, _, _, _, _, _, _, _, _, _]) rfl ?_
      refine OW_no rfl ?_
      refine OW_no rfl ?_
      refine OW_no rfl ?_
      refine OW_env (e' := [_, _, _, _, _, _, _, _, _, _, _, _, _, _, _, _, _, _, _, _, _, _, _, _, _, _, _, _, _, _, _, _, _, _, _, _, _, _, _, _, _, _, _, _, _, _, _, _, _, _, _, _, _, _, _, _, _, _, _, _, _, _, _, _, _, _, _, _, _, _, _, _, _, _, _, _, _, _, _, _, _]) rfl ?_
      refine OW_no rfl ?_
      refine OW_pick rfl rfl rfl ?_
      refine OW_as rfl rfl ?_
      refine OW_nilE (e' := [_, _, _, _, _, _, _, _, _, _, _, _, _, _, _, _, _, _, _, _, _, _, _, _, _, _, _, _, _, _, _, _, _, _, _, _, _, _, _, _, _, _, _, _, _, _, _, _, _, _, _, _, _, _, _, _, _, _, _, _, _, _, _, _, _, _, _, _, _, _, _, _, _, _, _, _, _, _, _, _, _]) rfl ?_
      refine XW_ret ?_
      -- outcome 10
      refine ret_ret (res1 rfl (rv_tmp rfl)) (frz1 (Q := Q) (by first | exact freeze_plain rfl | exact Ls.freeze (by assumption) | exact Ls.freeze Ls.of | exact Ls.freeze Ls.emp | exact Ls.freeze Ls.nls) ?_)
      first
      | exact hq
      | (refine qcast hq ?_; rfl)
      | (refine qcast hq ?_; simp; done)
      | (refine qcast hq ?_; simp; omega)
      | (refine qcast hq ?_; simp_all; done)
end Go.Proofs.Ytofeelhaifeenaa.X
